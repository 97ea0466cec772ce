/-
  The folds of no change, and copies of folds.
-/
import Derived.Test.YtodkhcbjpodgeaaGreatG20
import Derived.Ground.SlmcProg
import Derived.Deep.WholeRow
import Derived.Carry
import Derived.Shelf.SlMaps.Clone
namespace Go.Proofs.YtodkhcbjpodgeaaGreat
open Go.ChangeShapes Go.WideShapes Go.ChangeAt Go.RowKit
set_option linter.unusedVariables false
set_option maxRecDepth 100000
set_option maxHeartbeats 4000000
section
theorem Blk.newG {g:Nat}(w:World)(t:TypeId)(cs:Array Value)(h:g=w.heap.size):Blk (w.alloc (.cells cs t)) g t cs:=by subst h;exact Blk.new w t cs
theorem aan (w:World):Calls Tryz.prog 65 #[] w fun e w' =>∃p,e= .returned (.pointer (some ⟨p,0,none⟩))∧aV w' (fun i=>w.heap.size≤i) p [] [] 0∧Fr No w w' :=by
 go_in
 go_wp2_with fail
 go_ret
 exact ⟨_,rfl,⟨none,0,none,0,Nat.le_refl _,Blk.new _ _ _,aA.nil _ _ _ _,aA.nil _ _ _ _⟩,aj _ _⟩
theorem xX (w:World):Calls Tryz.prog 66 #[] w fun e w' =>∃p,e= .returned (.pointer (some ⟨p,0,none⟩))∧aY w' (fun i=>w.heap.size≤i) p nw0.ss∧Fr No w w' :=by
 go_in
 go_wp2_with fail
 go_ret
 exact ⟨_,rfl,⟨Nat.le_refl _,(Blk.new w _ _).cv (by rfl),rfl,by decide⟩,aj _ _⟩
theorem aae (w:World):Calls Tryz.prog 64 #[] w fun e w' =>∃p,e= .returned (.pointer (some ⟨p,0,none⟩))∧bX w' (fun i=>w.heap.size≤i) p nw0.D∧Fr No w w' :=by
 have hmk:=run_makeMap (P:=Tryz.prog) 194 w
 go_in
 go_wp2_with fail
 go_ret
 have ho:=gQ (World.ownsMap_made w Tryz.prog TS_ wR);exact ⟨_,rfl,⟨w.heap.size,(by simp),Nat.le_refl _,Blk.newG _ _ _ (by simp),fG ho (aj _ _) id,by decide⟩,(aj _ _).ah (aj _ _)⟩
theorem yx {w:World}{F:Nat→Prop}{q:Nat}{its:List It}{les:List Le}{gr:Int}(h:aV w F q its les gr)(hi:its.length≤1000000)(hl:les.length≤1000000):Calls Tryz.prog 129 #[.pointer (some ⟨q,0,none⟩)] w fun e w' =>∃p,e= .returned (.pointer (some ⟨p,0,none⟩))∧aV w' (fun i=>w.heap.size≤i) p its les gr∧Fr No w w' :=by
 obtain ⟨Ai,ci,Al,cl,hf,hb,o1,o2⟩:=h;have hAi:Ai=none→its.length=0:=by obtain ⟨_,_,e,n0⟩:=o1.form;cases e;exact n0
 have hAl:Al=none→les.length=0:=by obtain ⟨_,_,e,n0⟩:=o2.form;cases e;exact n0
 have hci:=fun V (hV:Fr No w V)=>(acs V Ai its.length ci (itV its) hAi (o1.au hV).rd (uM its) (uL its) hi).mono (fun (e:Ending) (v' :World) ⟨A,c,h1,h2,h3⟩=>(⟨A,c,h1,h2.mono fun i hi=>Nat.le_trans hV.size hi,h3⟩:∃A c,e=Ending.returned (.slice A its.length c)∧aA v' (fun i=>w.heap.size≤i) TIt 2 (.slice A its.length c) its.length (itV its)∧Fr No V v'));have hcl:=fun V (hV:Fr No w V)=>(af8 V Al les.length cl (leV les) hAl (o2.au hV).rd (kM les) (ajd les) hl).mono (fun (e:Ending) (v' :World) ⟨A,c,h1,h2,h3⟩=>(⟨A,c,h1,h2.mono fun i hi=>Nat.le_trans hV.size hi,h3⟩:∃A c,e=Ending.returned (.slice A les.length c)∧aA v' (fun i=>w.heap.size≤i) TLe 4 (.slice A les.length c) les.length (leV les)∧Fr No V v'));have hs:=fun V (hV:Fr No w V)=>(⟨(hb.fr hV id).cell 0,(hb.fr hV id).cell 1,(hb.fr hV id).cell 2⟩:V.cell? ⟨q,0,none⟩=some (.slice Ai its.length ci)∧V.cell? ⟨q,1,none⟩=some (.slice Al les.length cl)∧V.cell? ⟨q,2,none⟩=some (.int .i64 gr));obtain ⟨q0,q1,q2⟩:=hs w (Fr.refl _ _);clear hb o1 o2 hAi hAl;obtain ⟨HCI,HCL,HS⟩:=bC hci hcl hs;clear hci hcl hs
 go_in
 go_wp2_with fail
 go_region_held3 (fun V=>V.cell? ⟨q,0,none⟩=some (.slice Ai its.length ci)∧V.cell? ⟨q,1,none⟩=some (.slice Al les.length cl)∧V.cell? ⟨q,2,none⟩=some (.int .i64 gr)) (exact HS.out _ (by with_reducible ((repeat (first|assumption|exact Fr.refl _ _|refine Fr.alloc ?_ _|refine Fr.drew ?_|refine Fr.drewN ?_ _));done))) (first
  |(go_at_call 163;refine (HCI.out _ (by with_reducible ((repeat (first|assumption|exact Fr.refl _ _|refine Fr.alloc ?_ _|refine Fr.drew ?_|refine Fr.drewN ?_ _));done))).mono ?_;rintro r v5 ⟨A5,c5,rfl,o5,f5⟩;have Q5:Fr No w v5:=Fr.ah (by with_reducible ((repeat (first|assumption|exact Fr.refl _ _|refine Fr.alloc ?_ _|refine Fr.drew ?_|refine Fr.drewN ?_ _));done)) f5;have O5:=O o5;clear o5)
  |(go_at_call 170;refine (HCL.out _ (by with_reducible ((repeat (first|assumption|exact Fr.refl _ _|refine Fr.alloc ?_ _|refine Fr.drew ?_|refine Fr.drewN ?_ _));done))).mono ?_;rintro r v6 ⟨A6,c6,rfl,o6,f6⟩;have Q6:Fr No w v6:=Fr.ah (by with_reducible ((repeat (first|assumption|exact Fr.refl _ _|refine Fr.alloc ?_ _|refine Fr.drew ?_|refine Fr.drewN ?_ _));done)) f6;have O6:=O o6;clear o6))
 all_goals (try go_wp2_with fail)
 all_goals go_ret
 all_goals
  have fz:=fun (W:World) (hW:Fr No v5 W)=>O5.out.au hW;have fy:=fun (W:World) (hW:Fr No v6 W)=>O6.out.au hW
  first
   |exact ⟨_,rfl,⟨A5,c5,A6,c6,(by show _≤v5.heap.size;exact Q5.size),Blk.new _ _ _,fz _ (by with_reducible ((repeat (first|assumption|exact Fr.refl _ _|refine Fr.alloc ?_ _|refine Fr.drew ?_|refine Fr.drewN ?_ _));done)),fy _ (by with_reducible ((repeat (first|assumption|exact Fr.refl _ _|refine Fr.alloc ?_ _|refine Fr.drew ?_|refine Fr.drewN ?_ _));done))⟩,(by with_reducible ((repeat (first|assumption|exact Fr.refl _ _|refine Fr.alloc ?_ _|refine Fr.drew ?_|refine Fr.drewN ?_ _));done))⟩
   |exact ⟨_,rfl,⟨A5,c5,A6,c6,(by show _≤v6.heap.size;exact Q6.size),Blk.new _ _ _,fz _ (by with_reducible ((repeat (first|assumption|exact Fr.refl _ _|refine Fr.alloc ?_ _|refine Fr.drew ?_|refine Fr.drewN ?_ _));done)),fy _ (by with_reducible ((repeat (first|assumption|exact Fr.refl _ _|refine Fr.alloc ?_ _|refine Fr.drew ?_|refine Fr.drewN ?_ _));done))⟩,(by with_reducible ((repeat (first|assumption|exact Fr.refl _ _|refine Fr.alloc ?_ _|refine Fr.drew ?_|refine Fr.drewN ?_ _));done))⟩
def Tryz.cl5_ren:Go.Shelf.Ren:=⟨fun|5=>169|7=>228|n=>n,fun|23=>194|25=>9|3=>192|4=>4|20=>20|n=>n,fun|n=>n⟩
theorem Tryz.cl5:Go.Proofs.SlLaysW.n5 Tryz.prog Tryz.cl5_ren:={
 mixed:=by kernel_rfl
 f5:=⟨Tryz.f169.name,by decide,Tryz.func169.trans (congrArg some (by kernel_rfl))⟩
 f7:=Tryz.func228.trans (congrArg some (by kernel_rfl))
 t4:=Tryz.underlying4
 a4:=Tryz.isAgg4
 z4:=Tryz.sizeOf4
 v4:=Tryz.zeroValue4
 t20:=Tryz.underlying20
 a20:=Tryz.isAgg20
 z20:=Tryz.sizeOf20
 v20:=Tryz.zeroValue20
 t23:=Tryz.underlying194
 a23:=Tryz.isAgg194
 z23:=Tryz.sizeOf194
 v23:=Tryz.zeroValue194}
theorem xY {w:World}{F:Nat→Prop}{s:Nat}{D:DataW Unit}(h:bX w F s D):Calls Tryz.prog 128 #[.pointer (some ⟨s,0,none⟩)] w fun e w' =>∃p,e= .returned (.pointer (some ⟨p,0,none⟩))∧bX w' (fun i=>w.heap.size≤i) p D∧Fr No w w' :=by
 obtain ⟨m,hf,hf2,hb,o,z⟩:=h;obtain ⟨es,clock,hm,hrest⟩:=o;have s0:=hb.cell 0;have hcon:=AnyW.maps_Clone Tryz.cl5 m es clock w hm
 change Calls Tryz.prog 169 _ _ _ at hcon
 clear hb;obtain ⟨HM,arx⟩:=aN hm hrest;clear hm hrest
 go_in
 go_wp2_with fail
 refine hcon.mono ?_;clear hcon;rintro e w1 ⟨rfl,rfl⟩
 go_wp2_with fail
 go_ret
 exact ⟨_,rfl,⟨w.heap.size,(by simp),Nat.le_refl _,Blk.newG _ _ _ (by simp),⟨es,clock,((aj (w.alloc (.map es clock)) _).block w.heap.size (by simp) id).trans (heap_alloc_new w _),arx.out⟩,z⟩,(aj _ _).ah (aj _ _)⟩
attribute [-simp] Tryz.sizeOf219 in
theorem tT {w:World}{F:Nat→Prop}{t:Nat}{ss:List Ss}(h:aY w F t ss):Calls Tryz.prog 130 #[.pointer (some ⟨t,0,none⟩)] w fun e w' =>∃p,e= .returned (.pointer (some ⟨p,0,none⟩))∧aY w' (fun i=>w.heap.size≤i) p ss∧Fr No w w' :=by
 obtain ⟨hf,hb,hl,hr⟩:=h;obtain ⟨c,hc⟩:∃c,c=(ssV ss).toArray:=⟨_,rfl⟩;have hcz:c.size=40:=by rw [hc];simp [aah,hl]
 have hc1:c.all (·.oneCell')=true:=by rw [hc,Array.all_eq_true'];intro u hu;exact aie ss u (by simpa using hu)
 rw [←hc] at hb;have hi:(Tryz.prog.info? 219).map (·.size)=some c.size:=by rw [hcz];kernel_rfl
 obtain ⟨N,hN⟩:∃N,N=40:=⟨_,rfl⟩;have hsz:∀W,(sizeOf 219).run Tryz.prog W= .ok N W:=fun W=>by rw [hN];exact Tryz.sizeOf219 W
 have hcN:c.size=N:=by rw [hN,hcz]
 have hld:(loadCellsFrom ⟨t,0,none⟩ 0 N #[]).run Tryz.prog w= .ok c w:=by
  have:=run_loadCells_list (P:=Tryz.prog) w ⟨t,0,none⟩ c.toList (fun j v hv=>by
   have hadd:(⟨t,0,none⟩:Addr).add j=⟨t,j,none⟩:=by unfold Addr.add;split<;>simp_all
   rw [hadd,hb.cell];simpa using hv)
  simpa [loadCells,hcN] using this
 have hst:=fun (z:Array Value) (hz:z.size=40)=>run_storeCells_new (P:=Tryz.prog) w 219 z c hi (by rw [hz,hcz]) hc1;clear hN;clear hb hi;obtain ⟨HC,HCZ,HC1⟩:=bC hc hcz hc1;clear hc hcz hc1
 go_in
 go_wp2_with fail
 go_ret
 refine ⟨_,rfl,⟨Nat.le_refl _,(Blk.new w _ _).cv HC.out,hl,hr⟩,aj _ _⟩
end
section
def tag (w:World)(i:Nat):Nat:=match w.heap[i]? with|some (.cells _ t _)=>t+1|some (.map _ _)=>0|_=>1000000
def Of (w:World)(F:Nat→Prop)(T:List Nat)(i:Nat):Prop:=F i∧i<w.heap.size∧tag w i∈T
theorem Of.sub {w:World}{F:Nat→Prop}{T:List Nat}{i:Nat}(h:Of w F T i):F i:=h.1
theorem Of.lt {w:World}{F:Nat→Prop}{T:List Nat}{i:Nat}(h:Of w F T i):i<w.heap.size:=h.2.1
theorem Of.apart {w:World}{F G:Nat→Prop}{T U:List Nat}{i:Nat}(h:Of w F T i)(hd:∀a∈T,a ∉ U):¬Of w G U i:=fun h' =>hd _ h.2.2 h'.2.2
theorem Blk.of {w:World}{F:Nat→Prop}{T:List Nat}{i:Nat}{t:TypeId}{cs:Array Value}(hb:Blk w i t cs)(hF:F i)(hT:t+1∈T):Of w F T i:=by
 refine ⟨hF,hb.lt,?_⟩;unfold Blk at hb;unfold tag;rw [hb];exact hT
theorem aA.of {w:World}{F:Nat→Prop}{T:List Nat}{e:TypeId}{size n:Nat}{v:Value}{ys:List Value}(h:aA w F e size v n ys)(hT:e+1∈T):aA w (Of w F T) e size v n ys:=by
 refine ⟨h.1,fun g hg=> ?_⟩;have hFg:=h.2 g hg
 rcases h.1.2 with ⟨rfl,_⟩|⟨g',cap,cur,rfl,_,hb,_⟩
 ·cases hg
 ·obtain rfl:g' =g:=by injection hg
  exact Blk.of (w:=w) (cs:=cur) hb hFg hT
abbrev asl:List Nat:=[auz+1,0]
abbrev aom:List Nat:=[arj+1,TIt+1,TLe+1]
abbrev asj:List Nat:=[auy+1]
abbrev ad7:List Nat:=[ao5+1,nK+1]
variable {w w' :World}{F G:Nat→Prop}
theorem bX.of {s:Nat}{D:DataW Unit}(h:bX w F s D):bX w (Of w F asl) s D:=by
 obtain ⟨m,f1,f2,b,o,z⟩:=h;refine ⟨m,b.of f1 dcd,⟨f2,o.lt,?_⟩,b,o,z⟩;obtain ⟨es,clock,hb,-⟩:=o;unfold tag;rw [hb];exact List.mem_cons_of_mem _ (List.mem_singleton.2 rfl)
theorem aV.of {q:Nat}{its:List It}{les:List Le}{gr:Int}(h:aV w F q its les gr):aV w (Of w F aom) q its les gr:=by
 obtain ⟨Ai,ci,Al,cl,f1,b,o1,o2⟩:=h;exact ⟨Ai,ci,Al,cl,b.of f1 dcd,b,o1.of dcd,o2.of dcd⟩
theorem aY.of {t:Nat}{ss:List Ss}(h:aY w F t ss):aY w (Of w F asj) t ss:=⟨h.2.1.of h.1 dcd,h.2⟩
theorem bY.of {g:Nat}{cell cd:Int}{ws:List Wn}(h:bY w F g cell cd ws):bY w (Of w F ad7) g cell cd ws:=by
 obtain ⟨Aw,cw,f1,b,o⟩:=h;exact ⟨Aw,cw,b.of f1 dcd,b,o.of dcd⟩
def NTo (w:World)(F:Nat→Prop)(s q t:Nat)(n:Nw)(w' :World):Prop:=gI w' (fun i=>F i∨w.heap.size≤i) s q t n∧Fr F w w'
theorem ai1 {S Q T:Nat→Prop}{s q t:Nat}{n:Nw}(h1:bX w' S s n.D)(h2:aV w' Q q n.its n.les n.gr)(h3:aY w' T t n.ss)(hS:∀i,S i→F i∨w.heap.size≤i)(hQ:∀i,Q i→F i∨w.heap.size≤i)(hT:∀i,T i→F i∨w.heap.size≤i)(hf:Fr F w w'):NTo w F s q t n w' :=⟨⟨h1.mono hS,h2.mono hQ,h3.mono hT⟩,hf⟩
set_option maxHeartbeats 8000000 in
theorem ac9 {s q t:Nat}{n:Nw}(h:gI w F s q t n)(x:Ch)(hk:x.ky.size≤maxLen)(hv:x.vl.size≤maxLen)(hni:n.its.length≤1000000):
  Calls Tryz.prog 87 #[.agg #[.pointer (some ⟨s,0,none⟩),.pointer (some ⟨q,0,none⟩),.pointer (some ⟨t,0,none⟩)],.agg #[.int .i64 x.ep,.int .i64 x.sq,.int .i64 x.kd,.int .i64 x.cl,.int .i64 x.nm,.int .i64 x.it,.string x.ky,.string x.vl]] w fun e w' =>e= .returned (.int .i64 (cu n x).1)∧NTo w F s q t (cu n x).2 w' :=by
 obtain ⟨hs,hq,ht⟩:=h;have hS:=hs.of;have hQ:=hq.of;have hT:=ht.of;have hnw:cu n x=if (gu n.ss x).1≠0 then ((gu n.ss x).1,{n with ss:=(gu n.ss x).2}) else if (iQ n.D x).1≠0 then ((iQ n.D x).1,{n with ss:=(gu n.ss x).2,D:=(iQ n.D x).2}) else ((gD n.its n.les n.gr x).1,⟨(iQ n.D x).2,(gD n.its n.les n.gr x).2.1,(gD n.its n.les n.gr x).2.2.1,(gD n.its n.les n.gr x).2.2.2,(gu n.ss x).2⟩):=rfl
 revert hnw;generalize cu n x=R;intro hnw;obtain ⟨w1,hw1⟩:∃w1,w1=w.alloc (.cells #[.pointer (some ⟨s,0,none⟩),.pointer (some ⟨q,0,none⟩),.pointer (some ⟨t,0,none⟩)] 89):=⟨_,rfl⟩;obtain ⟨w2,hw2⟩:∃w2,w2=w1.alloc (.cells #[.int .i64 x.ep,.int .i64 x.sq,.int .i64 x.kd,.int .i64 x.cl,.int .i64 x.nm,.int .i64 x.it,.string x.ky,.string x.vl] 54):=⟨_,rfl⟩;obtain ⟨g1,hg1⟩:∃g1,g1=w.heap.size:=⟨_,rfl⟩;obtain ⟨g2,hg2⟩:∃g2,g2=w.heap.size+1:=⟨_,rfl⟩;have f1:Fr No w w1:=by rw [hw1];exact aj _ _
 have f2:Fr No w1 w2:=by rw [hw2];exact aj _ _
 have b1:Blk w2 g1 89 #[.pointer (some ⟨s,0,none⟩),.pointer (some ⟨q,0,none⟩),.pointer (some ⟨t,0,none⟩)]:=(show Blk w1 g1 89 _ from by rw [hw1,hg1];exact Blk.new _ _ _).fr f2 id;have b2:Blk w2 g2 54 #[.int .i64 x.ep,.int .i64 x.sq,.int .i64 x.kd,.int .i64 x.cl,.int .i64 x.nm,.int .i64 x.it,.string x.ky,.string x.vl]:=by rw [hw2,hg2];exact Blk.newG _ _ _ (by rw [hw1];simp)
 have f12:=f1.ah f2;have hga:w.heap.size≤g1:=by omega
 have hgb:w.heap.size≤g2:=by omega
 have hcell:=fun (P:Nat→Prop) V (hP:∀i,P i→i<w.heap.size) (hV:Fr P w2 V)=>(⟨⟨(b1.fr hV (fun h=>by have:=hP _ h;omega)).cell 0,(b1.fr hV (fun h=>by have:=hP _ h;omega)).cell 1,(b1.fr hV (fun h=>by have:=hP _ h;omega)).cell 2⟩,(b2.fr hV (fun h=>by have:=hP _ h;omega)).cell 0,(b2.fr hV (fun h=>by have:=hP _ h;omega)).cell 1,(b2.fr hV (fun h=>by have:=hP _ h;omega)).cell 2,(b2.fr hV (fun h=>by have:=hP _ h;omega)).cell 3,(b2.fr hV (fun h=>by have:=hP _ h;omega)).cell 4,(b2.fr hV (fun h=>by have:=hP _ h;omega)).cell 5,(b2.fr hV (fun h=>by have:=hP _ h;omega)).cell 6,(b2.fr hV (fun h=>by have:=hP _ h;omega)).cell 7⟩:
  (V.cell? ⟨g1,0,none⟩=some (.pointer (some ⟨s,0,none⟩))∧V.cell? ⟨g1,1,none⟩=some (.pointer (some ⟨q,0,none⟩))∧V.cell? ⟨g1,2,none⟩=some (.pointer (some ⟨t,0,none⟩)))∧V.cell? ⟨g2,0,none⟩=some (.int .i64 x.ep)∧V.cell? ⟨g2,1,none⟩=some (.int .i64 x.sq)∧V.cell? ⟨g2,2,none⟩=some (.int .i64 x.kd)∧V.cell? ⟨g2,3,none⟩=some (.int .i64 x.cl)∧V.cell? ⟨g2,4,none⟩=some (.int .i64 x.nm)∧V.cell? ⟨g2,5,none⟩=some (.int .i64 x.it)∧V.cell? ⟨g2,6,none⟩=some (.string x.ky)∧V.cell? ⟨g2,7,none⟩=some (.string x.vl))
 have hS2:=hS.fr f12 (fun _ _ h=>h);have hQ2:=hQ.fr f12 (fun _ _ h=>h);have hT2:=hT.fr f12 (fun _ _ h=>h);have auh:=qV hT2 x hk hv;have as2:w.heap.size≤w2.heap.size:=f12.size;clear hs hq ht hS hQ hT b1 b2;obtain ⟨HNW,HW1,HW2,HG1,HG2,tu,HS2,HQ2,HT2,F1,F2,F12⟩:=nS hnw hw1 hw2 hg1 hg2 hcell hS2 hQ2 hT2 f1 f2 f12;obtain ⟨HK,HV⟩:=aN hk hv;clear hnw hw1 hw2 hg1 hg2 hcell hS2 hQ2 hT2 f1 f2 f12 hk hv
 go_in
 go_upto_region 1 with fail
 rw [←HG2.out,←HW1.out,←HG1.out,←HW2.out];obtain ⟨⟨p0,p1,p2⟩,x0,x1,x2,x3,x4,x5,x6,x7⟩:=tu.out No w2 (fun _ h=>h.elim) (Fr.refl _ _)
 go_wp2_with fail
 refine auh.mono ?_;clear auh p0 p1 p2 x0 x1 x2 x3 x4 x5 x6 x7;rintro r w3 ⟨rfl,hT3,f3⟩;obtain ⟨HT3,HS3,HQ3,F3⟩:=fV hT3 (HS2.out.fr f3 (fun i h=>h.apart dcd)) (HQ2.out.fr f3 (fun i h=>h.apart dcd)) f3;clear hT3 f3 HS2 HQ2 HT2;have F3a:Hid (Fr F w w3):=O ((F12.out.mono (fun _ h=>h.elim)).trans F3.out (fun i h=> .inl h.sub));obtain ⟨⟨p0,p1,p2⟩,x0,x1,x2,x3,x4,x5,x6,x7⟩:=tu.out _ w3 (fun i h=>h.lt) F3.out
 by_cases e1:(gu n.ss x).1=0
 rotate_left
 ·have HR:=O (HNW.out.trans (if_pos e1))
  have d1:decide ((gu n.ss x).1=0)=false:=decide_eq_false e1;generalize (gu n.ss x).1=r1 at e1 d1 HR ⊢
  go_wp2_with fail
  all_goals go_ret
  all_goals rw [HR.out]
  all_goals exact ⟨rfl,ai1 HS3.out HQ3.out HT3.out (fun i h=> .inl h.sub) (fun i h=> .inl h.sub) (fun i h=> .inl h.sub) F3a.out⟩
 have HR1:=O (HNW.out.trans (if_neg (fun h=>h e1)));clear HNW;rw [e1];have aui:=tX HS3.out (fun i h=>nll h.lt (Nat.le_trans as2 F3.out.size)) x HK.out HV.out
 go_wp2_with fail
 refine aui.mono ?_;clear aui p0 p1 p2 x0 x1 x2 x3 x4 x5 x6 x7;rintro r w4 ⟨rfl,hS4,f4⟩;obtain ⟨HS4,HT4,HQ4⟩:=bC hS4 (HT3.out.fr f4 (fun i h=>h.apart dcd)) (HQ3.out.fr f4 (fun i h=>h.apart dcd));have F4:Hid (Fr (fun i=>Of w F asj i∨Of w F asl i) w2 w4):=O ((F3.out.mono (fun _ h=> .inl h)).trans f4 (fun i h=> .inl (.inr h)));have F4a:Hid (Fr F w w4):=O (F3a.out.trans f4 (fun i h=> .inl h.sub));clear hS4 f4 HS3 HQ3 HT3 F3a F3;obtain ⟨⟨p0,p1,p2⟩,x0,x1,x2,x3,x4,x5,x6,x7⟩:=tu.out _ w4 (fun i h=>h.elim (fun h=>h.lt) (fun h=>h.lt)) F4.out
 by_cases e2:(iQ n.D x).1=0
 rotate_left
 ·have HR:=O (HR1.out.trans (if_pos e2))
  have d1:decide ((iQ n.D x).1=0)=false:=decide_eq_false e2;generalize (iQ n.D x).1=r1 at e2 d1 HR ⊢
  go_wp2_with fail
  all_goals go_ret
  all_goals rw [HR.out]
  all_goals exact ⟨rfl,ai1 HS4.out HQ4.out HT4.out (fun i h=> .inl h.sub) (fun i h=> .inl h.sub) (fun i h=> .inl h.sub) F4a.out⟩
 have HR:=O (HR1.out.trans (if_neg (fun h=>h e2)));clear HR1;rw [e2];have auj:=uo HQ4.out x HK.out HV.out hni
 go_wp2_with fail
 refine auj.mono ?_;clear auj;rintro r w5 ⟨rfl,hQ5,f5⟩;have av5:w.heap.size≤w4.heap.size:=Nat.le_trans as2 F4.out.size;obtain ⟨HQ5,HT5,HS5⟩:=bC hQ5 (HT4.out.fr f5 (fun i h=>h.apart dcd)) (HS4.out.fr f5 (fun i h=>h.apart dcd));have F5:Hid (Fr F w w5):=O (F4a.out.trans f5 (fun i h=> .inl h.sub));clear hQ5 f5
 go_wp2_with fail
 go_ret
 rw [HR.out];exact ⟨rfl,ai1 HS5.out HQ5.out HT5.out (fun i h=> .inl h.sub) (fun i h=>h.elim (fun h=> .inl h.sub) (fun h=> .inr (Nat.le_trans av5 h))) (fun i h=> .inl h.sub) F5.out⟩
end
section
variable {w w' :World}{F G:Nat→Prop}
abbrev ahy:TypeId:=89
theorem iM {f:Func}(k:Nat){g:Nat}(a b c:Value)(ts:Array Value){W:World}(hb:Blk W g ahy #[a,b,c])(h2:ts[k]?.getD undef= .pointer (some ⟨g,0,none⟩))(hr:f.results= #[.cell k ahy]):(results f ts).run Tryz.prog W= .ok (.agg #[a,b,c]) W:=by
 have c0:=hb.cell 0;have c1:=hb.cell 1;have c2:=hb.cell 2
 simp at c0 c1 c2
 simp [results,hr,go_sem,h2,c0,c1,c2]
theorem toG {g:Nat}(h:Fr No w w'):Fr (fun i=>i=g) w w' :=h.mono fun _ h=>h.elim
theorem Fr.rz {w a:World}{g:Nat}(h:Fr (fun i=>i=g) a w)(o:Nat)(u:Value):Fr (fun i=>i=g) a (w.setCell ⟨g,o,none⟩ u):=h.setCell (p:=⟨g,o,none⟩) (.inl rfl) u
theorem qd {w w2 V:World}{g2 s q t:Nat}{n:Nw}{c:Array Value}(hf2:Fr No w w2)(hV:Fr No w2 V)(b2:Blk w2 g2 ahy c)(hc:c.size=3)(hg:w.heap.size≤g2)(h1:bX V (fun i=>w2.heap.size≤i) s n.D)(h2:aV V (fun i=>w2.heap.size≤i) q n.its n.les n.gr)(h3:aY V (fun i=>w2.heap.size≤i) t n.ss):
  gI (((V.setCell ⟨g2,0,none⟩ (.pointer (some ⟨s,0,none⟩))).setCell ⟨g2,1,none⟩ (.pointer (some ⟨q,0,none⟩))).setCell ⟨g2,2,none⟩ (.pointer (some ⟨t,0,none⟩))) (fun i=>w.heap.size≤i) s q t n∧Fr No w (((V.setCell ⟨g2,0,none⟩ (.pointer (some ⟨s,0,none⟩))).setCell ⟨g2,1,none⟩ (.pointer (some ⟨q,0,none⟩))).setCell ⟨g2,2,none⟩ (.pointer (some ⟨t,0,none⟩)))∧
  Blk (((V.setCell ⟨g2,0,none⟩ (.pointer (some ⟨s,0,none⟩))).setCell ⟨g2,1,none⟩ (.pointer (some ⟨q,0,none⟩))).setCell ⟨g2,2,none⟩ (.pointer (some ⟨t,0,none⟩))) g2 ahy #[.pointer (some ⟨s,0,none⟩),.pointer (some ⟨q,0,none⟩),.pointer (some ⟨t,0,none⟩)]:=by
 have hlt:=b2.lt;have hs:=hf2.size;have hw:=((((Fr.refl (fun i=>i=g2) V).setCell (p:=⟨g2,0,none⟩) (.inl rfl) (.pointer (some ⟨s,0,none⟩))).setCell (p:=⟨g2,1,none⟩) (.inl rfl) (.pointer (some ⟨q,0,none⟩))).setCell (p:=⟨g2,2,none⟩) (.inl rfl) (.pointer (some ⟨t,0,none⟩)));have hd:∀i,w2.heap.size≤i→¬(i=g2):=fun i hi e=>by omega
 have hm:∀i,w2.heap.size≤i→w.heap.size≤i:=fun i hi=>by omega
 refine ⟨⟨(h1.fr hw hd).mono hm,(h2.fr hw hd).mono hm,(h3.fr hw hd).mono hm⟩,(hf2.ah hV).aD hw (fun i e=>by have e:i=g2:=e;omega),?_⟩;refine ((((b2.fr hV id).aC 0 _).aC 1 _).aC 2 _).cv ?_;obtain ⟨l⟩:=c
 match l,hc with
 |[a,b,d],_=>rfl
set_option maxHeartbeats 8000000 in
theorem acd {s q t:Nat}{n:Nw}(h:gI w F s q t n)(hi:n.its.length≤1000000)(hl:n.les.length≤1000000):
  Calls Tryz.prog 89 #[.agg #[.pointer (some ⟨s,0,none⟩),.pointer (some ⟨q,0,none⟩),.pointer (some ⟨t,0,none⟩)]] w fun e w' =>∃s' q' t',e= .returned (.agg #[.pointer (some ⟨s',0,none⟩),.pointer (some ⟨q',0,none⟩),.pointer (some ⟨t',0,none⟩)])∧gI w' (fun i=>w.heap.size≤i) s' q' t' n∧Fr No w w' :=by
 obtain ⟨hs,hq,ht⟩:=h;obtain ⟨w1,hw1⟩:∃w1,w1=w.alloc (.cells #[.pointer (some ⟨s,0,none⟩),.pointer (some ⟨q,0,none⟩),.pointer (some ⟨t,0,none⟩)] 89):=⟨_,rfl⟩;obtain ⟨w2,hw2⟩:∃w2,w2=w1.alloc (.cells #[.pointer none,.pointer none,.pointer none] 89):=⟨_,rfl⟩;obtain ⟨g1,hg1⟩:∃g1,g1=w.heap.size:=⟨_,rfl⟩;obtain ⟨g2,hg2⟩:∃g2,g2=w.heap.size+1:=⟨_,rfl⟩;have f1:Fr No w w1:=by rw [hw1];exact aj _ _
 have f2:Fr No w1 w2:=by rw [hw2];exact aj _ _
 have b1:Blk w2 g1 ahy #[.pointer (some ⟨s,0,none⟩),.pointer (some ⟨q,0,none⟩),.pointer (some ⟨t,0,none⟩)]:=(show Blk w1 g1 89 _ from by rw [hw1,hg1];exact Blk.new _ _ _).fr f2 id;have b2:Blk w2 g2 ahy #[.pointer none,.pointer none,.pointer none]:=by rw [hw2,hg2];exact Blk.newG _ _ _ (by rw [hw1];simp)
 have f12:=f1.ah f2;have hgb:w.heap.size≤g2:=by omega
 have hgg:g1≠g2:=by omega
 have ay2 :g2≠g1:=by omega
 have hcell:=fun V (hV:Fr (fun i=>i=g2) w2 V)=>(⟨(b1.fr hV hgg).cell 0,(b1.fr hV hgg).cell 1,(b1.fr hV hgg).cell 2⟩:
  V.cell? ⟨g1,0,none⟩=some (.pointer (some ⟨s,0,none⟩))∧V.cell? ⟨g1,1,none⟩=some (.pointer (some ⟨q,0,none⟩))∧V.cell? ⟨g1,2,none⟩=some (.pointer (some ⟨t,0,none⟩)))
 have ami:=fun V (hV:Fr No w2 V)=>(⟨(b2.fr hV id).cell 0,(b2.fr hV id).cell 1,(b2.fr hV id).cell 2,(b2.fr hV id).frozen 0,(b2.fr hV id).frozen 1,(b2.fr hV id).frozen 2⟩:
  V.cell? ⟨g2,0,none⟩=some (.pointer none)∧V.cell? ⟨g2,1,none⟩=some (.pointer none)∧V.cell? ⟨g2,2,none⟩=some (.pointer none)∧V.frozen? ⟨g2,0,none⟩=false∧V.frozen? ⟨g2,1,none⟩=false∧V.frozen? ⟨g2,2,none⟩=false)
 have hcs:=fun V (hV:Fr No w2 V)=>(xY (hs.fr (f12.ah hV) (fun _ _ h=>h))).mono (fun (e:Ending) (v' :World) ⟨p,h1,h2,h3⟩=>(⟨p,h1,h2.mono fun i hi=>Nat.le_trans hV.size hi,h3⟩:∃p,e=Ending.returned (.pointer (some ⟨p,0,none⟩))∧bX v' (fun i=>w2.heap.size≤i) p n.D∧Fr No V v'));have hcq:=fun V (hV:Fr No w2 V)=>(yx (hq.fr (f12.ah hV) (fun _ _ h=>h)) hi hl).mono (fun (e:Ending) (v' :World) ⟨p,h1,h2,h3⟩=>(⟨p,h1,h2.mono fun i hi=>Nat.le_trans hV.size hi,h3⟩:∃p,e=Ending.returned (.pointer (some ⟨p,0,none⟩))∧aV v' (fun i=>w2.heap.size≤i) p n.its n.les n.gr∧Fr No V v'));have hct:=fun V (hV:Fr No w2 V)=>(tT (ht.fr (f12.ah hV) (fun _ _ h=>h))).mono (fun (e:Ending) (v' :World) ⟨p,h1,h2,h3⟩=>(⟨p,h1,h2.mono fun i hi=>Nat.le_trans hV.size hi,h3⟩:∃p,e=Ending.returned (.pointer (some ⟨p,0,none⟩))∧aY v' (fun i=>w2.heap.size≤i) p n.ss∧Fr No V v'));clear hs hq ht b1;have B2:=O b2;clear b2;obtain ⟨HW1,HW2,HG1,HG2,tu,an8,F1,F2,F12,HCS,HCQ,HCT⟩:=nS hw1 hw2 hg1 hg2 hcell ami f1 f2 f12 hcs hcq hct;clear hw1 hw2 hg1 hg2 hcell ami f1 f2 f12 hcs hcq hct
 go_in
 go_upto_region 1 with fail
 rw [←HG2.out,←HW1.out,←HG1.out,←HW2.out];obtain ⟨p0,p1,p2⟩:=tu.out w2 (Fr.refl _ _)
 go_region_held3 (fun V=>V.cell? ⟨g1,0,none⟩=some (.pointer (some ⟨s,0,none⟩))∧V.cell? ⟨g1,1,none⟩=some (.pointer (some ⟨q,0,none⟩))∧V.cell? ⟨g1,2,none⟩=some (.pointer (some ⟨t,0,none⟩))) ((refine tu.out _ ?_;(with_reducible (repeat (refine Fr.rz ?_ _ _)));refine toG ?_;(with_reducible (repeat (first|assumption|exact Fr.refl _ _|refine Fr.alloc ?_ _|refine Fr.drew ?_)));done)) (first
  |(go_at_call 128;refine (HCS.out _ (by with_reducible ((repeat (first|assumption|exact Fr.refl _ _|refine Fr.alloc ?_ _|refine Fr.drew ?_|refine Fr.drewN ?_ _));done))).mono ?_;rintro r v5 ⟨p5,rfl,o5,f5⟩;have Q5:Fr No w2 v5:=Fr.ah (by with_reducible ((repeat (first|assumption|exact Fr.refl _ _|refine Fr.alloc ?_ _|refine Fr.drew ?_|refine Fr.drewN ?_ _));done)) f5;have O5:=O o5;clear o5;obtain ⟨u0_,u1_,u2_,y0_,y1_,y2_⟩:=an8.out v5 Q5)
  |(go_at_call 129;refine (HCQ.out _ (by with_reducible ((repeat (first|assumption|exact Fr.refl _ _|refine Fr.alloc ?_ _|refine Fr.drew ?_|refine Fr.drewN ?_ _));done))).mono ?_;rintro r v6 ⟨p6,rfl,o6,f6⟩;have Q6:Fr No w2 v6:=Fr.ah (by with_reducible ((repeat (first|assumption|exact Fr.refl _ _|refine Fr.alloc ?_ _|refine Fr.drew ?_|refine Fr.drewN ?_ _));done)) f6;have O6:=O o6;clear o6;obtain ⟨u0_,u1_,u2_,y0_,y1_,y2_⟩:=an8.out v6 Q6)
  |(go_at_call 130;refine (HCT.out _ (by with_reducible ((repeat (first|assumption|exact Fr.refl _ _|refine Fr.alloc ?_ _|refine Fr.drew ?_|refine Fr.drewN ?_ _));done))).mono ?_;rintro r v7 ⟨p7,rfl,o7,f7⟩;have Q7:Fr No w2 v7:=Fr.ah (by with_reducible ((repeat (first|assumption|exact Fr.refl _ _|refine Fr.alloc ?_ _|refine Fr.drew ?_|refine Fr.drewN ?_ _));done)) f7;have O7:=O o7;clear o7;obtain ⟨u0_,u1_,u2_,y0_,y1_,y2_⟩:=an8.out v7 Q7))
 all_goals
  have L5:=fun V (hV:Fr No v5 V)=>O5.out.fr hV (fun _ _ h=>h);have L6:=fun V (hV:Fr No v6 V)=>O6.out.fr hV (fun _ _ h=>h);have L7:=fun V (hV:Fr No v7 V)=>O7.out.fr hV (fun _ _ h=>h)
  first
   |(have hn:=qd F12.out Q5 B2.out rfl hgb (L5 v5 (by first|exact Fr.refl _ _|exact f5|exact f6|exact f7|exact f5.ah f6|exact f5.ah f7|exact f6.ah f5|exact f6.ah f7|exact f7.ah f5|exact f7.ah f6)) (L6 v5 (by first|exact Fr.refl _ _|exact f5|exact f6|exact f7|exact f5.ah f6|exact f5.ah f7|exact f6.ah f5|exact f6.ah f7|exact f7.ah f5|exact f7.ah f6)) (L7 v5 (by first|exact Fr.refl _ _|exact f5|exact f6|exact f7|exact f5.ah f6|exact f5.ah f7|exact f6.ah f5|exact f6.ah f7|exact f7.ah f5|exact f7.ah f6));generalize World.setCell (World.setCell (World.setCell v5 _ _) _ _) _ _=W at hn ⊢;obtain ⟨n1,n2,n3⟩:=hn;have c0:=n3.cell 0;have c1:=n3.cell 1;have c2:=n3.cell 2;go_wp2_with fail;exact bodyPost_ret (v:= .agg #[.pointer (some ⟨p5,0,none⟩),.pointer (some ⟨p6,0,none⟩),.pointer (some ⟨p7,0,none⟩)]) (iM 2 _ _ _ _ n3 rfl (by first|rfl|exact Tryz.results89)) rfl ⟨_,_,_,rfl,n1,n2⟩)
   |(have hn:=qd F12.out Q6 B2.out rfl hgb (L5 v6 (by first|exact Fr.refl _ _|exact f5|exact f6|exact f7|exact f5.ah f6|exact f5.ah f7|exact f6.ah f5|exact f6.ah f7|exact f7.ah f5|exact f7.ah f6)) (L6 v6 (by first|exact Fr.refl _ _|exact f5|exact f6|exact f7|exact f5.ah f6|exact f5.ah f7|exact f6.ah f5|exact f6.ah f7|exact f7.ah f5|exact f7.ah f6)) (L7 v6 (by first|exact Fr.refl _ _|exact f5|exact f6|exact f7|exact f5.ah f6|exact f5.ah f7|exact f6.ah f5|exact f6.ah f7|exact f7.ah f5|exact f7.ah f6));generalize World.setCell (World.setCell (World.setCell v6 _ _) _ _) _ _=W at hn ⊢;obtain ⟨n1,n2,n3⟩:=hn;have c0:=n3.cell 0;have c1:=n3.cell 1;have c2:=n3.cell 2;go_wp2_with fail;exact bodyPost_ret (v:= .agg #[.pointer (some ⟨p5,0,none⟩),.pointer (some ⟨p6,0,none⟩),.pointer (some ⟨p7,0,none⟩)]) (iM 2 _ _ _ _ n3 rfl (by first|rfl|exact Tryz.results89)) rfl ⟨_,_,_,rfl,n1,n2⟩)
   |(have hn:=qd F12.out Q7 B2.out rfl hgb (L5 v7 (by first|exact Fr.refl _ _|exact f5|exact f6|exact f7|exact f5.ah f6|exact f5.ah f7|exact f6.ah f5|exact f6.ah f7|exact f7.ah f5|exact f7.ah f6)) (L6 v7 (by first|exact Fr.refl _ _|exact f5|exact f6|exact f7|exact f5.ah f6|exact f5.ah f7|exact f6.ah f5|exact f6.ah f7|exact f7.ah f5|exact f7.ah f6)) (L7 v7 (by first|exact Fr.refl _ _|exact f5|exact f6|exact f7|exact f5.ah f6|exact f5.ah f7|exact f6.ah f5|exact f6.ah f7|exact f7.ah f5|exact f7.ah f6));generalize World.setCell (World.setCell (World.setCell v7 _ _) _ _) _ _=W at hn ⊢;obtain ⟨n1,n2,n3⟩:=hn;have c0:=n3.cell 0;have c1:=n3.cell 1;have c2:=n3.cell 2;go_wp2_with fail;exact bodyPost_ret (v:= .agg #[.pointer (some ⟨p5,0,none⟩),.pointer (some ⟨p6,0,none⟩),.pointer (some ⟨p7,0,none⟩)]) (iM 2 _ _ _ _ n3 rfl (by first|rfl|exact Tryz.results89)) rfl ⟨_,_,_,rfl,n1,n2⟩)
end
section
variable {w w' :World}{F G:Nat→Prop}
theorem bX.le {s:Nat}{D:DataW Unit}(h:bX w F s D):bX w (fun i=>F i∧i<w.heap.size) s D:=h.of.mono fun i h=>⟨h.sub,h.lt⟩
theorem aV.le {q:Nat}{its:List It}{les:List Le}{gr:Int}(h:aV w F q its les gr):aV w (fun i=>F i∧i<w.heap.size) q its les gr:=h.of.mono fun i h=>⟨h.sub,h.lt⟩
theorem aY.le {t:Nat}{ss:List Ss}(h:aY w F t ss):aY w (fun i=>F i∧i<w.heap.size) t ss:=h.of.mono fun i h=>⟨h.sub,h.lt⟩
theorem bY.le {g:Nat}{cell cd:Int}{ws:List Wn}(h:bY w F g cell cd ws):bY w (fun i=>F i∧i<w.heap.size) g cell cd ws:=h.of.mono fun i h=>⟨h.sub,h.lt⟩
theorem gI.le {s q t:Nat}{n:Nw}(h:gI w F s q t n):gI w (fun i=>F i∧i<w.heap.size) s q t n:=⟨h.1.le,h.2.1.le,h.2.2.le⟩
theorem gI.mono {s q t:Nat}{n:Nw}(h:gI w F s q t n)(hm:∀i,F i→G i):gI w G s q t n:=⟨h.1.mono hm,h.2.1.mono hm,h.2.2.mono hm⟩
theorem vE {p s q t g:Nat}{Ah:Option Addr}{ch:Nat}{c:Kp}(fp:F p)(b:Blk w p nW #[.int .i64 c.cell,.int .i64 c.ten,.slice Ah c.h.length ch,.pointer (some ⟨s,0,none⟩),.pointer (some ⟨q,0,none⟩),.pointer (some ⟨t,0,none⟩),.pointer (some ⟨g,0,none⟩)])
  (o:aA w F TCh 8 (.slice Ah c.h.length ch) c.h.length (chV c.h)) (n:gI w F s q t c.nw) (k:bY w F g c.cell c.cd c.ws):aM w (fun i=>F i∧i<w.heap.size) p c:=
 ⟨fun _ h=>h.2,⟨fp,b.lt⟩,s,q,t,g,Ah,ch,b,⟨o.1,fun i hi=>⟨o.2 i hi,o.lt i hi⟩⟩,n.le,k.le⟩
set_option maxHeartbeats 8000000 in
theorem wN (w:World):Calls Tryz.prog 28 #[] w fun e w' =>∃s q t,e= .returned (.agg #[.pointer (some ⟨s,0,none⟩),.pointer (some ⟨q,0,none⟩),.pointer (some ⟨t,0,none⟩)])∧gI w' (fun i=>w.heap.size≤i) s q t nw0∧Fr No w w' :=by
 obtain ⟨w2,hw2⟩:∃w2,w2=w.alloc (.cells #[.pointer none,.pointer none,.pointer none] 89):=⟨_,rfl⟩;obtain ⟨g2,hg2⟩:∃g2,g2=w.heap.size:=⟨_,rfl⟩;have f12:Fr No w w2:=by rw [hw2];exact aj _ _
 have b2:Blk w2 g2 ahy #[.pointer none,.pointer none,.pointer none]:=by rw [hw2,hg2];exact Blk.new _ _ _
 have hgb:w.heap.size≤g2:=by omega
 have ami:=fun V (hV:Fr No w2 V)=>(⟨(b2.fr hV id).cell 0,(b2.fr hV id).cell 1,(b2.fr hV id).cell 2,(b2.fr hV id).frozen 0,(b2.fr hV id).frozen 1,(b2.fr hV id).frozen 2⟩:
  V.cell? ⟨g2,0,none⟩=some (.pointer none)∧V.cell? ⟨g2,1,none⟩=some (.pointer none)∧V.cell? ⟨g2,2,none⟩=some (.pointer none)∧V.frozen? ⟨g2,0,none⟩=false∧V.frozen? ⟨g2,1,none⟩=false∧V.frozen? ⟨g2,2,none⟩=false)
 have B2:=O b2;clear b2;obtain ⟨HW2,HG2,an8,F12⟩:=fV hw2 hg2 ami f12;clear hw2 hg2 ami f12
 go_in
 go_upto_region 1 with fail
 rw [←HW2.out,←HG2.out]
 go_wp2_with fail
 refine (aae w2).mono ?_;rintro r w3 ⟨s,rfl,h3,f3⟩;have H3:=O h3;clear h3
 go_wp2_with fail
 refine (aan w3).mono ?_;rintro r w4 ⟨q,rfl,h4,f4⟩;have H4:=O h4;clear h4
 go_wp2_with fail
 refine (xX w4).mono ?_;rintro r w5 ⟨t,rfl,h5,f5⟩;have H5:=O h5;clear h5;obtain ⟨u0,u1,u2,y0,y1,y2⟩:=an8.out w5 (f3.ah (f4.ah f5))
 go_wp2_with fail
 have s3:=f3.size;have s4:=f4.size;have hn:=qd (n:=nw0) F12.out (f3.ah (f4.ah f5)) B2.out rfl hgb (H3.out.fr (f4.ah f5) (fun _ _ h=>h)) ((H4.out.fr f5 (fun _ _ h=>h)).mono (fun i hi=>Nat.le_trans s3 hi)) (H5.out.mono (fun i hi=>Nat.le_trans (Nat.le_trans s3 s4) hi));generalize World.setCell (World.setCell (World.setCell w5 _ _) _ _) _ _=W at hn ⊢;obtain ⟨n1,n2,n3⟩:=hn;exact bodyPost_ret (v:= .agg #[.pointer (some ⟨s,0,none⟩),.pointer (some ⟨q,0,none⟩),.pointer (some ⟨t,0,none⟩)]) (iM 0 _ _ _ _ n3 rfl (by first|rfl|exact Tryz.results28)) rfl ⟨_,_,_,rfl,n1,n2⟩
set_option maxHeartbeats 8000000 in
theorem afr (w:World)(n:Int):Calls Tryz.prog 29 #[.int .i64 n] w fun e w' =>∃p,e= .returned (.pointer (some ⟨p,0,none⟩))∧bY w' (fun i=>w.heap.size≤i) p n 0 []∧Fr No w w' :=by
 go_in
 go_wp2_with fail
 go_ret
 exact ⟨_,rfl,⟨none,0,Nat.le_refl _,Blk.new _ _ _,aA.nil _ _ _ _⟩,aj _ _⟩
set_option maxHeartbeats 8000000 in
theorem lT (w:World)(n m:Int):Calls Tryz.prog 5 #[.int .i64 n,.int .i64 m] w fun e w' =>∃p,e= .returned (.pointer (some ⟨p,0,none⟩))∧aM w' (fun i=>w.heap.size≤i∧i<w'.heap.size) p (cs0 n m)∧Fr No w w' :=by
 go_in
 go_wp2_with fail
 refine (wN w).mono ?_;rintro r w3 ⟨s,q,t,rfl,h3,f3⟩;have H3:=O h3;clear h3
 go_wp2_with fail
 refine (afr w3 n).mono ?_;rintro r w4 ⟨g,rfl,h4,f4⟩;have H4:=O h4;clear h4
 go_wp2_with fail
 go_ret
 have s3:=f3.size;have s4:=f4.size;have f5:=aj w4 (.cells #[.int .i64 n,.int .i64 m,.slice none 0 0,.pointer (some ⟨s,0,none⟩),.pointer (some ⟨q,0,none⟩),.pointer (some ⟨t,0,none⟩),.pointer (some ⟨g,0,none⟩)] nW);refine ⟨_,rfl,vE (c:=cs0 n m) (Ah:=none) (ch:=0) oy (Blk.new _ _ _) (aA.nil _ _ _ _) (H3.out.fr (f4.ah f5) (fun _ _ h=>h)) ((H4.out.fr f5 (fun _ _ h=>h)).mono (fun i hi=>Nat.le_trans s3 hi)),f3.ah (f4.ah f5)⟩
set_option maxHeartbeats 8000000 in
theorem bQ {p:Nat}{c:Kp}(h:aM w F p c):Calls Tryz.prog 16 #[.pointer (some ⟨p,0,none⟩)] w fun e w' =>e= .returned (.int .i64 (c.h.length:Int))∧w' =w:=by
 obtain ⟨s,q,t,g,Ah,ch,hb,ho,hn,hk⟩:=h.at_;have hbb:=hb.cell;have c0:=hbb 0;have c1:=hbb 1;have c2:=hbb 2;simp only [List.getElem?_toArray,List.getElem?_cons_zero,List.getElem?_cons_succ] at c0 c1 c2;clear hb hbb ho hn hk h
 go_in
 go_wp2_with fail
 go_ret
 exact ⟨rfl,rfl⟩
set_option maxHeartbeats 8000000 in
theorem acy {p:Nat}{c:Kp}(h:aM w F p c)(hl:c.h.length≤1000000):Calls Tryz.prog 42 #[.pointer (some ⟨p,0,none⟩)] w fun e w' =>e= .returned (.int .i64 c.ep)∧∃m,w' =w.drewN m:=by
 obtain ⟨s,q,t,g,Ah,ch,hb,ho,hn,hk⟩:=h.at_;have hbb:=hb.cell;have c0:=hbb 0;have c1:=hbb 1;have c2:=hbb 2;simp only [List.getElem?_toArray,List.getElem?_cons_zero,List.getElem?_cons_succ] at c0 c1 c2;have hat:=fun i (hi:i<c.h.length)=>ho.rd.lI hi;have hcap:=ho.cap;unfold maxLen at hcap;have hep:c.ep=match c.h.getLast? with|none=>0|some x=>x.ep:=rfl
 rw [List.getLast?_eq_getElem?] at hep;obtain ⟨ahn,anq,l,auv,auw,auu⟩:=c;simp only at*;clear hb hbb ho hn hk h
 rcases hln:l.length with _|n
 ·rw [hln] at c2 hep
  have he:Kp.ep ⟨ahn,anq,l,auv,auw,auu⟩=0:=by rw [hep];rw [List.getElem?_eq_none oy]
  rw [he];clear hep hat he
  go_in
  go_wp2_with fail
  go_ret
  exact ⟨rfl,0,rfl⟩
 ·obtain ⟨b,off,x,rfl,hx,hcx⟩:=hat n oy
  rw [hln] at c2 hep;have he:Kp.ep ⟨ahn,anq,l,auv,auw,auu⟩=x.ep:=by rw [hep,show n+1-1=n from rfl,hx]
  rw [he];have z0:=(hcx w (Fr.refl _ _)).1;have hn1:n+1≤ch:=by omega
  clear hep hat he hcx;have d0:decide (((n+1:Nat):Int)=0)=false:=dff
  go_in
  go_upto_region 3 with fail
  go_quiet (fail)
  go_wp2_with fail
  go_ret
  exact ⟨rfl,_,rfl⟩
end
section
variable {w w' :World}{F G:Nat→Prop}
theorem jI {P:Program}{f:FuncId}{args:Array Value}{w:World}{n:Nat}{v:Value}
  (h:Calls P f args (w.drewN n) fun e w' =>e= .returned v∧∃m,w' =(w.drewN n).drewN m):Calls P f args (w.drewN n) fun e w'' =>e= .returned v∧∃m,w'' =w.drewN m:=
 h.mono fun _ _ ⟨he,m,hm⟩=>⟨he,n+m,hm.trans (World.drewN_drewN ..)⟩
theorem CTo.same {p:Nat}{c:Kp}(h:aM w F p c){W:World}{H:Nat→Prop}(hf:Fr H w W)(hH:∀i,H i→w.heap.size≤i):CTo w F p c W:=
 ⟨F,h.fr hf (fun i hi e=>by have:=h.lt i hi;have:=hH i e;omega),fun i hi=> .inl hi,(Fr.refl F w).trans hf (fun i hi=> .inr (hH i hi))⟩
theorem ahl {W:World}{p s q t g s' q' t' :Nat}{c:Kp}{Ah:Option Addr}{ch:Nat}{a2:Value}{n' :Nw}
  (bp:Blk W p nW #[.int .i64 c.cell,.int .i64 c.ten,a2,.pointer (some ⟨s,0,none⟩),.pointer (some ⟨q,0,none⟩),.pointer (some ⟨t,0,none⟩),.pointer (some ⟨g,0,none⟩)]) (oh:aA W (Of w F [TCh+1]) TCh 8 (.slice Ah c.h.length ch) c.h.length (chV c.h)) (nw:gI W (fun i=>w.heap.size≤i) s' q' t' n') (gt:bY W (Of w F ad7) g c.cell c.cd c.ws) (fr:Fr F w W) (hp:Of w F [nW+1] p):
  Blk (((W.setCell ⟨p,3,none⟩ (.pointer (some ⟨s',0,none⟩))).setCell ⟨p,4,none⟩ (.pointer (some ⟨q',0,none⟩))).setCell ⟨p,5,none⟩ (.pointer (some ⟨t',0,none⟩))) p nW #[.int .i64 c.cell,.int .i64 c.ten,a2,.pointer (some ⟨s',0,none⟩),.pointer (some ⟨q',0,none⟩),.pointer (some ⟨t',0,none⟩),.pointer (some ⟨g,0,none⟩)]∧
  aA (((W.setCell ⟨p,3,none⟩ (.pointer (some ⟨s',0,none⟩))).setCell ⟨p,4,none⟩ (.pointer (some ⟨q',0,none⟩))).setCell ⟨p,5,none⟩ (.pointer (some ⟨t',0,none⟩))) (Of w F [TCh+1]) TCh 8 (.slice Ah c.h.length ch) c.h.length (chV c.h)∧
  gI (((W.setCell ⟨p,3,none⟩ (.pointer (some ⟨s',0,none⟩))).setCell ⟨p,4,none⟩ (.pointer (some ⟨q',0,none⟩))).setCell ⟨p,5,none⟩ (.pointer (some ⟨t',0,none⟩))) (fun i=>w.heap.size≤i) s' q' t' n'∧
  bY (((W.setCell ⟨p,3,none⟩ (.pointer (some ⟨s',0,none⟩))).setCell ⟨p,4,none⟩ (.pointer (some ⟨q',0,none⟩))).setCell ⟨p,5,none⟩ (.pointer (some ⟨t',0,none⟩))) (Of w F ad7) g c.cell c.cd c.ws∧
  Fr (fun i=>i=p) W (((W.setCell ⟨p,3,none⟩ (.pointer (some ⟨s',0,none⟩))).setCell ⟨p,4,none⟩ (.pointer (some ⟨q',0,none⟩))).setCell ⟨p,5,none⟩ (.pointer (some ⟨t',0,none⟩))):=by
 have hw:Fr (fun i=>i=p) W _:=(((Fr.refl (fun i=>i=p) W).rz 3 (.pointer (some ⟨s',0,none⟩))).rz 4 (.pointer (some ⟨q',0,none⟩))).rz 5 (.pointer (some ⟨t',0,none⟩));have hlt:=hp.lt;exact ⟨(((bp.aC 3 _).aC 4 _).aC 5 _).cv rfl,oh.fr' hw (fun g hg e=>oh.aW bp dcd g hg e),nw.fr hw (fun i hi e=>by have e:i=p:=e;omega),gt.fr hw (fun i hi e=>by have e:i=p:=e;subst e;exact hi.apart dcd hp),hw⟩
theorem anl {W W' :World}{p s q t g:Nat}{c:Kp}{Ah:Option Addr}{ch:Nat}{a2:Value}{n' :Nw}{x:Ch}{A' :Option Addr}{c' :Nat}
  (bp:Blk W p nW #[.int .i64 c.cell,.int .i64 c.ten,a2,.pointer (some ⟨s,0,none⟩),.pointer (some ⟨q,0,none⟩),.pointer (some ⟨t,0,none⟩),.pointer (some ⟨g,0,none⟩)]) (oh:aA W (Of w F [TCh+1]) TCh 8 (.slice Ah c.h.length ch) c.h.length (chV c.h)) (nw:gI W (fun i=>w.heap.size≤i) s q t n') (gt:bY W (Of w F ad7) g c.cell c.cd c.ws) (fr:Fr F w W) (hp:Of w F [nW+1] p)
  (ha:aJ W 0 TCh 8 (.slice Ah c.h.length ch) c.h.length (chV c.h) x.cells 1 (.slice A' (c.h.length+1) c') W'):
  Blk W' p nW #[.int .i64 c.cell,.int .i64 c.ten,a2,.pointer (some ⟨s,0,none⟩),.pointer (some ⟨q,0,none⟩),.pointer (some ⟨t,0,none⟩),.pointer (some ⟨g,0,none⟩)]∧CTo w F p {c with h:=c.h++[x],nw:=n'} (W'.setCell ⟨p,2,none⟩ (.slice A' (c.h.length+1) c')):=by
 obtain ⟨-,f1⟩:=oh.self.appended ha;obtain ⟨o1,-⟩:=oh.appended ha;have hlt:=hp.lt;have hs:=fr.size;have hss:=f1.size;have hof:∀i,(Value.slice Ah c.h.length ch).ownBlock=some i→Of w F [TCh+1] i:=fun i hi=>oh.2 i hi;have b1:=bp.fr f1 (fun e=>oh.aW bp dcd _ e rfl);have hw:=gU W' ⟨p,2,none⟩ (.slice A' (c.h.length+1) c');have n1:=nw.fr f1 (fun i hi e=>by have:=(hof i e).lt;omega);have k1:=gt.fr f1 (fun i hi e=>hi.apart dcd (hof i e));have n2:=n1.fr hw (fun i hi e=>by have e:i=p:=e;omega);have k2:=k1.fr hw (fun i hi e=>by have e:i=p:=e;subst e;exact hi.apart dcd hp);have o2:=o1.fr' hw (o1.aW b1 dcd);have hfr:Fr F w (W'.setCell ⟨p,2,none⟩ (.slice A' (c.h.length+1) c')):=(fr.trans f1 (fun i e=> .inl (hof i e).sub)).setCell (p:=⟨p,2,none⟩) (.inl hp.sub) _;refine ⟨b1,_,vE (F:=fun i=>F i∨w.heap.size≤i) (c:={c with h:=c.h++[x],nw:=n'}) (Ah:=A') (ch:=c') (.inl hp.sub) ?_ ?_ (n2.mono fun i hi=> .inr hi) (k2.mono fun i hi=> .inl hi.sub),fun i hi=>hi.1,hfr⟩
 ·refine (b1.aC 2 _).cv ?_
  simp
 ·have:=o2.mono (G:=fun i=>F i∨w.heap.size≤i) (fun i hi=>hi.elim (fun h=> .inl h.sub) (fun h=> .inr oy))
  simpa [chV] using this
set_option maxHeartbeats 8000000 in
theorem oU {p:Nat}{c:Kp}(h:aM w F p c)(x:Ch)(hk:x.ky.size≤maxLen)(hv:x.vl.size≤maxLen)(hh:c.h.length≤1000000)(hi:c.nw.its.length≤1000000)(hl:c.nw.les.length≤1000000):
  Calls Tryz.prog 52 #[.pointer (some ⟨p,0,none⟩),.agg #[.int .i64 x.ep,.int .i64 x.sq,.int .i64 x.kd,.int .i64 x.cl,.int .i64 x.nm,.int .i64 x.it,.string x.ky,.string x.vl]] w fun e w' =>e= .returned (.int .i64 (aH c x).1)∧CTo w F p (aH c x).2 w' :=by
 obtain ⟨i1,hi1,hz0,hz1,hz2⟩:=info_parts iK;have hvl:=fun V=>iX x V hk hv;have hR:aH c x=if !chB x then (1,c) else if x.sq≠(c.h.length:Int)+1 || decide (x.ep<c.ep) then (36,c) else if (cu c.nw x).1≠0 then ((cu c.nw x).1,c) else (0,{c with h:=c.h++[x],nw:=(cu c.nw x).2}):=rfl
 have had:=fun (V:World) (F:Nat→Prop) s q t (hn:gI V F s q t c.nw)=>ac9 hn x hk hv hi;have hfin:=fun (W W' :World) (s q t g:Nat) (Ah:Option Addr) (ch:Nat) (a2:Value) (A' :Option Addr) (c' :Nat) b1 b2 b3 b4 b5 b6 b7=>(anl (w:=w) (F:=F) (W:=W) (W' :=W') (p:=p) (s:=s) (q:=q) (t:=t) (g:=g) (c:=c) (Ah:=Ah) (ch:=ch) (a2:=a2) (n' :=(cu c.nw x).2) (x:=x) (A' :=A') (c' :=c') b1 b2 b3 b4 b5 b6 b7);revert hvl hR had hfin;generalize aH c x=R;generalize chB x=qv;obtain ⟨ep,sq,kd,cl,nm,it,ky,vl⟩:=x;generalize cu c.nw ⟨ep,sq,kd,cl,nm,it,ky,vl⟩=rn;intro hvl hR had hfin;simp only [Ch.cells] at*;obtain ⟨w1,hw1⟩:∃w1,w1=w.alloc (.cells #[.int .i64 ep,.int .i64 sq,.int .i64 kd,.int .i64 cl,.int .i64 nm,.int .i64 it,.string ky,.string vl] 54):=⟨_,rfl⟩;obtain ⟨g1,hg1⟩:∃g1,g1=w.heap.size:=⟨_,rfl⟩;have b1:Blk w1 g1 TCh #[.int .i64 ep,.int .i64 sq,.int .i64 kd,.int .i64 cl,.int .i64 nm,.int .i64 it,.string ky,.string vl]:=by rw [hw1,hg1];exact Blk.new _ _ _
 have f1:Fr No w w1:=by rw [hw1];exact aj _ _
 have hx:=fun V (hV:Fr No w1 V)=>(⟨(b1.fr hV id).cell 0,(b1.fr hV id).cell 1,(b1.fr hV id).cell 2,(b1.fr hV id).cell 3,(b1.fr hV id).cell 4,(b1.fr hV id).cell 5,(b1.fr hV id).cell 6,(b1.fr hV id).cell 7⟩:V.cell? ⟨g1,0,none⟩=some (.int .i64 ep)∧V.cell? ⟨g1,1,none⟩=some (.int .i64 sq)∧V.cell? ⟨g1,2,none⟩=some (.int .i64 kd)∧V.cell? ⟨g1,3,none⟩=some (.int .i64 cl)∧V.cell? ⟨g1,4,none⟩=some (.int .i64 nm)∧V.cell? ⟨g1,5,none⟩=some (.int .i64 it)∧V.cell? ⟨g1,6,none⟩=some (.string ky)∧V.cell? ⟨g1,7,none⟩=some (.string vl));have hlen:=fun V (hV:Fr No w1 V)=>bQ (h.au (f1.ah hV));have am2:=fun V (hV:Fr No w1 V)=>acy (h.au (f1.ah hV)) hh;have H:=O h;clear h;have hga:w.heap.size≤g1:=by omega
 obtain ⟨HW1,HG1,HVL,HR,HX,F1,HI1,HZ0,HZ1,HZ2,HLEN,apb⟩:=nS hw1 hg1 hvl hR hx f1 hi1 hz0 hz1 hz2 hlen am2;obtain ⟨B1,HAD,eu⟩:=bC b1 had hfin;clear hw1 hg1 hvl hR hx f1 hi1 hz0 hz1 hz2 hlen am2 b1 had hfin
 go_in
 go_upto_region 1 with fail
 rw [←HW1.out,←HG1.out];obtain ⟨x0,x1,x2,x3,x4,x5,x6,x7⟩:=HX.out w1 (Fr.refl _ _)
 go_wp2_with fail
 refine (HVL.out _).mono ?_;rintro r w2 ⟨rfl,f2⟩;have F2:=O f2;clear f2 x0 x1 x2 x3 x4 x5 x6 x7;obtain ⟨x0,x1,x2,x3,x4,x5,x6,x7⟩:=HX.out w2 F2.out
 cases qv
 ·have HQ:=O (HR.out.trans (if_pos rfl))
  go_wp2_with fail
  go_ret
  rw [HQ.out];exact ⟨rfl,CTo.same H.out (F1.out.ah F2.out) (fun _ h=>h.elim)⟩
 have HR0:=O (HR.out.trans (if_neg dcd));clear HR
 go_upto_region 3 with fail
 have f2:Fr No w1 w2:=F2.out;have hx2:=fun V (hV:Fr No w1 V)=>(⟨(HX.out V hV).1,(HX.out V hV).2.1⟩:V.cell? ⟨g1,0,none⟩=some (.int .i64 ep)∧V.cell? ⟨g1,1,none⟩=some (.int .i64 sq));have hLo:(c.h.length:Int)≤1000000:=by omega
 have HX2:=O hx2;clear hx2
 go_cut [22] from 10 to 22 (fun v wx=>v= .bool (!decide (sq=(c.h.length:Int)+1) || decide (ep<c.ep))∧Fr No w1 wx)
 case first=>
  have hwr:IntKind.i64.wrap ((c.h.length:Int)+1)=(c.h.length:Int)+1:=IntWalk.i64_in _ oy
  rcases hd1:decide (sq=(c.h.length:Int)+1) with _|_
  ·have hne:¬sq=(c.h.length:Int)+1:=of_decide_eq_false hd1
   have dn:(sq != (c.h.length:Int)+1)=true:=by simp [bne,hne]
   clear hne
   go_quiet (first
    |(go_at_call 16;exact dK ((HLEN.out _ (F2.out.drewN _)).mono fun _ _ ⟨h1,h2⟩=>⟨h1,h2.symm⟩))
    |(go_at_call 42;exact jI (apb.out _ (F2.out.drewN _))))
   all_goals (try go_wp2_with fail)
   all_goals go_meet
   all_goals exact ⟨by rw [hd1];rfl,F2.out.drewN _⟩
  ·have hne:sq=(c.h.length:Int)+1:=of_decide_eq_true hd1
   have dn:(sq != (c.h.length:Int)+1)=false:=by simp [bne,hne]
   clear hne
   go_quiet (first
    |(go_at_call 16;exact dK ((HLEN.out _ (F2.out.drewN _)).mono fun _ _ ⟨h1,h2⟩=>⟨h1,h2.symm⟩))
    |(go_at_call 42;exact jI (apb.out _ (F2.out.drewN _))))
   all_goals (try go_wp2_with fail)
   all_goals go_meet
   all_goals exact ⟨by rw [hd1];rfl,F2.out.drewN _⟩
 obtain ⟨av6,fc⟩:=hcut;subst av6;have FC:=O (F1.out.ah fc);clear x0 x1 x2 x3 x4 x5 x6 x7;obtain ⟨x0,x1,x2,x3,x4,x5,x6,x7⟩:=HX.out wc fc;have FC1:=O fc;clear fc f2 F2
 cases hB:(!decide (sq=(c.h.length:Int)+1) || decide (ep<c.ep))
 rotate_left
 ·have HQ:=O (HR0.out.trans (if_pos (by simpa using hB)))
  go_wp2_with fail
  go_ret
  rw [HQ.out];exact ⟨rfl,CTo.same H.out FC.out (fun _ h=>h.elim)⟩
 have HR1:=O (HR0.out.trans (if_neg (fun e=>by have e2:(!decide (sq=(c.h.length:Int)+1) || decide (ep<c.ep))=true:=(by simpa using e);rw [hB] at e2;cases e2)));clear HR0 hB;obtain ⟨s,q,t,g,Ah,ch,bp,ho,hn,hkk⟩:=H.out.at_;obtain ⟨HP,BPC,HO,HN,HKK⟩:=jq (bp.of (T:=[nW+1]) H.out.fp dcd) (bp.fr FC.out id) ((ho.of (T:=[TCh+1]) dcd).au FC.out) (hn.fr FC.out (fun _ _ h=>h)) (hkk.of.fr FC.out (fun _ _ h=>h));clear bp ho hn hkk;obtain ⟨p0,p1,p2,p3,p4,p5,p6⟩:=(⟨BPC.out.cell 0,BPC.out.cell 1,BPC.out.cell 2,BPC.out.cell 3,BPC.out.cell 4,BPC.out.cell 5,BPC.out.cell 6⟩:wc.cell? ⟨p,0,none⟩=some (.int .i64 c.cell)∧wc.cell? ⟨p,1,none⟩=some (.int .i64 c.ten)∧wc.cell? ⟨p,2,none⟩=some (.slice Ah c.h.length ch)∧wc.cell? ⟨p,3,none⟩=some (.pointer (some ⟨s,0,none⟩))∧wc.cell? ⟨p,4,none⟩=some (.pointer (some ⟨q,0,none⟩))∧wc.cell? ⟨p,5,none⟩=some (.pointer (some ⟨t,0,none⟩))∧wc.cell? ⟨p,6,none⟩=some (.pointer (some ⟨g,0,none⟩)))
 go_wp2_with fail
 refine (acd HN.out hi hl).mono ?_;rintro r w4 ⟨s',q',t',rfl,hn4,f4⟩;obtain ⟨HN4,F4⟩:=aN hn4 f4;clear hn4 f4
 go_upto_region 6 with fail
 obtain ⟨w5,hw5⟩:∃w5,w5=w4.alloc (.cells #[.pointer (some ⟨s',0,none⟩),.pointer (some ⟨q',0,none⟩),.pointer (some ⟨t',0,none⟩)] 89):=⟨_,rfl⟩;obtain ⟨g5,hg5⟩:∃g5,g5=w4.heap.size:=⟨_,rfl⟩;rw [←hw5,←hg5];have f45:Fr No w4 w5:=by rw [hw5];exact aj _ _
 have b5:Blk w5 g5 ahy #[.pointer (some ⟨s',0,none⟩),.pointer (some ⟨q',0,none⟩),.pointer (some ⟨t',0,none⟩)]:=by rw [hw5,hg5];exact Blk.new _ _ _
 have fc5:Fr No wc w5:=F4.out.ah f45;have hn5:=HN4.out.le.fr f45 (fun _ _ h=>h);have ana:=HAD.out w5 _ s' q' t' hn5;have b15:=B1.out.fr (FC1.out.ah fc5) id;have hsz1:g1<wc.heap.size:=nll B1.out.lt FC1.out.size;have av7:w.heap.size≤wc.heap.size:=FC.out.size;have ayc:wc.heap.size≤w4.heap.size:=F4.out.size;have ayh:p<w.heap.size:=HP.out.lt;have hfr:∀{W:World},Fr (fun i=>wc.heap.size≤i∧i<w4.heap.size) w5 W→Fr (fun i=>wc.heap.size≤i∧i<w4.heap.size) w W:=fun hW=>((FC.out.ah fc5).mono (fun _ h=>h.elim)).trans hW (fun i h=> .inl h);have bp5:=BPC.out.fr fc5 id;have ho5:=HO.out.au fc5;have hk5:=HKK.out.fr fc5 (fun _ _ h=>h);obtain ⟨B15,B5,BP5,HO5,HK5⟩:=jq b15 b5 bp5 ho5 hk5;clear b15 b5 bp5 ho5 hk5 BPC HO HKK HN HN4 HAD x0 x1 x2 x3 x4 x5 x6 x7 p0 p1 p2 p3 p4 p5 p6;have xx:=B15.out.cell;have x0:=xx 0;have x1:=xx 1;have x2:=xx 2;have x3:=xx 3;have x4:=xx 4;have x5:=xx 5;have x6:=xx 6;have x7:=xx 7;have y0:=B5.out.cell 0;have y1:=B5.out.cell 1;have y2:=B5.out.cell 2;simp only [List.getElem?_toArray,List.getElem?_cons_zero,List.getElem?_cons_succ] at x0 x1 x2 x3 x4 x5 x6 x7 y0 y1 y2;clear xx hn5;have FR5:=O fc5;have HFR:= @hfr;clear fc5 f45 hfr;obtain ⟨HW5,HG5⟩:=aN hw5 hg5;clear hw5 hg5
 go_wp2_with fail
 refine ana.mono ?_;clear ana x0 x1 x2 x3 x4 x5 x6 x7 y0 y1 y2;rintro r w6 ⟨rfl,hn6,f6⟩;have b16:=B15.out.fr f6 (fun h=>by omega);have b56:=B5.out.fr f6 (fun h=>by have:=HG5.out;omega);have bp6:=BP5.out.fr f6 (fun h=>by omega);have hfw:=HFR f6;have hfF:Fr F w w6:=(Fr.refl F w).trans hfw (fun i h=> .inr oy);have ho6:=HO5.out.frF f6 (fun i h e=>by have:=h.lt;omega);have hk6:=HK5.out.fr f6 (fun i h e=>by have:=h.lt;omega);have as9:=hn6.mono (G:=fun i=>w.heap.size≤i) (fun i h=>by have:=FR5.out.size;omega);clear HFR;have xx:=b16.cell;have x0:=xx 0;have x1:=xx 1;have x2:=xx 2;have x3:=xx 3;have x4:=xx 4;have x5:=xx 5;have x6:=xx 6;have x7:=xx 7;have y0:=b56.cell 0;have y1:=b56.cell 1;have y2:=b56.cell 2;simp only [List.getElem?_toArray,List.getElem?_cons_zero,List.getElem?_cons_succ] at x0 x1 x2 x3 x4 x5 x6 x7 y0 y1 y2;have p2:=bp6.cell 2;have p3:=bp6.cell 3;have p4:=bp6.cell 4;have p5:=bp6.cell 5;have z2:=bp6.frozen 2;have z3:=bp6.frozen 3;have z4:=bp6.frozen 4;have z5:=bp6.frozen 5;simp only [List.getElem?_toArray,List.getElem?_cons_zero,List.getElem?_cons_succ] at p2 p3 p4 p5;clear xx f6;have hpg:p≠g1:=by omega
 have awg :g1≠p:=by omega
 have ayj:p≠g5:=by have:=HG5.out;omega
 have awf :g5≠p:=by omega
 obtain ⟨B16,BP6,HFF,HO6,HK6,axn,HFW,B56,HN6⟩:=akp b16 bp6 hfF ho6 hk6 as9 hfw b56 hn6;clear b16 bp6 hfF ho6 hk6 as9 hfw b56 hn6
 by_cases e1:rn.1=0
 rotate_left
 ·have HQ:=O (HR1.out.trans (if_pos e1))
  have d1:decide (rn.1=0)=false:=decide_eq_false e1;generalize rn.1=r1 at e1 d1 HQ ⊢
  go_wp2_with fail
  all_goals go_ret
  all_goals rw [HQ.out]
  all_goals exact ⟨rfl,CTo.same H.out HFW.out (fun i h=>by omega)⟩
 have HQ:=O (HR1.out.trans (if_neg (fun h=>h e1)));clear HR1;rw [e1]
 go_upto_region 10 with fail
 have hq:=ahl BP6.out HO6.out axn.out HK6.out HFF.out HP.out;have hb1:=B16.out;generalize World.setCell (World.setCell (World.setCell w6 _ _) _ _) _ _=W7 at hq ⊢;obtain ⟨bp7,oh7,nw7,gt7,f7⟩:=hq;have b17:=hb1.fr f7 awg;have atx:Fr F w W7:=HFF.out.trans f7 (fun i h=> .inl (by have h:i=p:=h;rw [h];exact HP.out.sub));clear hb1 x0 x1 x2 x3 x4 x5 x6 x7 y0 y1 y2 p2 p3 p4 p5 z2 z3 z4 z5;have xx:=b17.cell;have x0:=xx 0;have x1:=xx 1;have x2:=xx 2;have x3:=xx 3;have x4:=xx 4;have x5:=xx 5;have x6:=xx 6;have x7:=xx 7;have p2:=bp7.cell 2;have z2:=bp7.frozen 2;simp only [List.getElem?_toArray,List.getElem?_cons_zero,List.getElem?_cons_succ] at x0 x1 x2 x3 x4 x5 x6 x7 p2;have hp7:p<W7.heap.size:=bp7.lt;have hg7:g1<W7.heap.size:=b17.lt;have ayk :p≠W7.heap.size:=by omega
 have ay9 :g1≠W7.heap.size:=by omega
 have hxl:=oh7.1.1;have hsv:=fun V (hV:Fr No W7 V)=>(oh7.au hV).1;have happ:=fun (V W:World) (v' :Value) (hV:Fr No W7 V) (ha:aJ V 0 TCh 8 (.slice Ah c.h.length ch) c.h.length (chV c.h) [.int .i64 ep,.int .i64 sq,.int .i64 kd,.int .i64 cl,.int .i64 nm,.int .i64 it,.string ky,.string vl] 1 v' W)=>(by
  obtain ⟨A',c',rfl,-⟩:=((oh7.au hV).appended ha).1.form;have hh:=eu.out V W _ _ _ _ _ _ _ A' c' (bp7.fr hV id) (oh7.au hV) (nw7.fr hV (fun _ _ h=>h)) (gt7.fr hV (fun _ _ h=>h)) (atx.trans hV (fun _ h=>h.elim)) HP.out ha;exact ⟨A',c',rfl,hh.1.cell 2,hh.1.frozen 2,hh.2⟩:∃A' c',v' = .slice A' (c.h.length+1) c'∧W.cell? ⟨p,2,none⟩=some (.slice Ah c.h.length ch)∧W.frozen? ⟨p,2,none⟩=false∧CTo w F p {c with h:=c.h++[⟨ep,sq,kd,cl,nm,it,ky,vl⟩],nw:=rn.2} (W.setCell ⟨p,2,none⟩ (.slice A' (c.h.length+1) c')))
 clear bp7 oh7 nw7 gt7 f7 b17 atx xx;obtain ⟨HSV,akz⟩:=aN hsv happ;clear hsv happ
 go_region_law (refine aI _ (by rfl) (.tmp 42) (.tmp 44) _ (by rfl) 0 TCh i1 _ 8 80 Tryz.underlying41 HI1.out HZ0.out HZ1.out HZ2.out rfl dcd (.slice Ah c.h.length ch) c.h.length (chV c.h) (by rfl) (HSV.out _ (((Fr.refl No W7).drew).alloc _)) (W7.heap.size+1) (some ⟨W7.heap.size,0,none⟩) 1 1 [.int .i64 ep,.int .i64 sq,.int .i64 kd,.int .i64 cl,.int .i64 nm,.int .i64 it,.string ky,.string vl] (by rfl) (fun h=>by cases h) (Rd.new W7.drew _ TCh rfl) rfl (by simp [Value.oneCell']) mxl oy (Nat.zero_le _) ?_;intro v1 w8 happ;obtain ⟨A1,cc1,rfl,q2_,z2_,hto⟩:=akz.out _ _ _ (((Fr.refl No W7).drew).alloc _) happ;have HTO:=O hto;clear happ hto)
 all_goals go_wp2_with fail
 all_goals go_ret
 all_goals rw [HQ.out]
 all_goals exact ⟨rfl,HTO.out⟩
end
section
variable {w w' :World}{F G:Nat→Prop}
set_option maxHeartbeats 8000000 in
theorem gG {p g:Nat}(c0:w.cell? ⟨p,6,none⟩=some (.pointer (some ⟨g,0,none⟩))):Calls Tryz.prog 7 #[.pointer (some ⟨p,0,none⟩)] w fun e w' =>e= .returned (.pointer (some ⟨g,0,none⟩))∧w' =w:=by
 go_in
 go_wp2_with fail
 go_ret
 exact ⟨rfl,rfl⟩
set_option maxHeartbeats 8000000 in
theorem yA {q:Nat}{its:List It}{les:List Le}{gr:Int}(h:aV w F q its les gr)(hi:its.length≤1000000):Calls Tryz.prog 118 #[.pointer (some ⟨q,0,none⟩)] w (pJ w TIt 2 its.length (itV its)):=by
 obtain ⟨Ai,ci,Al,cl,hf,hb,o1,o2⟩:=h;have hAi:Ai=none→its.length=0:=by obtain ⟨_,_,e,n0⟩:=o1.form;cases e;exact n0
 have hcl:=acs w Ai its.length ci (itV its) hAi o1.rd (uM its) (uL its) hi;have c0:=hb.cell 0;simp only [List.getElem?_toArray,List.getElem?_cons_zero] at c0;clear hb o1 o2 hAi
 go_in
 go_wp2_with fail
 refine hcl.mono ?_;clear hcl;rintro r w5 ⟨A5,c5,rfl,o5,f5⟩
 go_wp2_with fail
 go_ret
 exact ⟨A5,c5,rfl,o5,f5⟩
set_option maxHeartbeats 8000000 in
theorem ko {p:Nat}{c:Kp}(h:aM w F p c)(hl:c.h.length≤1000000)(k:Nat)(hk0:k≤1000000):Calls Tryz.prog 12 #[.pointer (some ⟨p,0,none⟩),.int .i64 (k:Int)] w (pJ w TCh 8 (c.h.length-k) (chV (c.h.drop k))):=by
 obtain ⟨s,q,t,g,Ah,ch,hb,ho,hn,hk⟩:=h.at_;have c0:=hb.cell 2;simp only [List.getElem?_toArray,List.getElem?_cons_zero,List.getElem?_cons_succ] at c0;obtain ⟨hc1,hc2⟩:=ho.cap;generalize c.h=l at*
 by_cases hlk:l.length≤k
 ·have d0:decide (l.length≤k)=true:=decide_eq_true hlk
  have hz:l.length-k=0:=by omega
  rw [hz,List.drop_eq_nil_of_le hlk];clear hb ho hn hk h hz hc1 hc2 hlk
  go_in
  go_wp2_with fail
  go_ret
  exact ⟨none,0,rfl,aA.nil _ _ _ _,Fr.refl _ _⟩
 ·obtain ⟨b,off,hA⟩:∃b off,Ah=some ⟨b,off,none⟩:=by obtain ⟨b,off,x,e,-⟩:=ho.rd.lI (i:=k) oy;exact ⟨b,off,e⟩
  subst hA;have hcl:=fun cc=>sV w (some ⟨b,off+k*8,none⟩) (l.length-k) cc (chV (l.drop k)) (fun h=>by cases h) (by rw [←xC];exact ho.rd.drop (k*8)) (by rw [qz,List.length_drop]) (acu _) oy;have d0:decide (l.length≤k)=false:=decide_eq_false hlk;have hm:max (k:Int) 0=(k:Int):=by omega
  have h1:(k:Int)≤(l.length:Int):=by omega
  have h2:(l.length:Int)≤(ch:Int):=by omega
  have h3:k≠ch:=by omega
  clear hb ho hn hk h;unfold maxLen at hc2;have HCL:=O hcl;clear hcl
  go_in
  go_wp2_with fail
  refine (HCL.out _).mono ?_;rintro r w5 ⟨A5,c5,rfl,o5,f5⟩
  go_wp2_with fail
  go_ret
  exact ⟨A5,c5,rfl,o5,f5⟩
end
section
variable {w w' :World}{F G:Nat→Prop}
def adk (ss:List Ss):List Value:=ss.map fun s=> .int .i64 s.nm
theorem abl:(Tryz.prog.info? 3).map (fun i=>(i.zero,i.size,i.bytes))=some (some (.int .i64 0),1,8):=by kernel_rfl
attribute [-simp] Tryz.sizeOf217 in
set_option maxHeartbeats 8000000 in
theorem xV {t:Nat}{ss:List Ss}(h:aY w F t ss):Calls Tryz.prog 59 #[.pointer (some ⟨t,0,none⟩)] w (pJ w 3 1 8 (adk ss)):=by
 obtain ⟨hf,hb,hl,hr⟩:=h;obtain ⟨c,hc⟩:∃c,c=(ssV ss).toArray:=⟨_,rfl⟩;have hcz:c.size=40:=by rw [hc];simp [aah,hl]
 rw [←hc] at hb;obtain ⟨N,hN⟩:∃N,N=40:=⟨_,rfl⟩;have hsz:∀W,(sizeOf 217).run Tryz.prog W= .ok N W:=fun W=>by rw [hN];exact Tryz.sizeOf217 W
 have hcN:c.size=N:=by rw [hN,hcz]
 have hld:(loadCellsFrom ⟨t,0,none⟩ 0 N #[]).run Tryz.prog w= .ok c w:=by
  have:=run_loadCells_list (P:=Tryz.prog) w ⟨t,0,none⟩ c.toList (fun j v hv=>by
   have hadd:(⟨t,0,none⟩:Addr).add j=⟨t,j,none⟩:=by unfold Addr.add;split<;>simp_all
   rw [hadd,hb.cell];simpa using hv)
  simpa [loadCells,hcN] using this
 have hix:∀(i:Nat) (x:Ss),ss[i]? =some x→∀W,(Instr.index 217 (.agg c) (.int .i64 (i:Int))).run Tryz.prog W= .ok (.agg #[.int .i64 x.nm,.int .i64 x.rp.er,.int .i64 x.rp.sq,.int .i64 x.rp.it,.string x.rp.vl]) W:=by
  intro i x hx W;obtain ⟨hi,hgx⟩:=List.getElem?_eq_some_iff.1 hx;have he:c.extract (i*5) (i*5+5)= #[.int .i64 x.nm,.int .i64 x.rp.er,.int .i64 x.rp.sq,.int .i64 x.rp.it,.string x.rp.vl]:=by
   rw [hc]
   apply Array.ext'
   have e1:((ssV ss).drop (i*5)).take 5=x.cells:=by
    rw [aed,List.drop_eq_getElem_cons hi,hgx,gM]
    rfl
   simpa [List.extract,Ss.cells] using e1
  simp [Instr.index,go_sem,part,he]
  intro h8;exact absurd hi oy
 obtain ⟨ii,hii,ate,atd,atc⟩:=info_parts abl;have hN0:¬(N=0):=by omega
 have hN1:(N == 0)=false:=by simp [hN]
 clear hN hb;obtain ⟨HC,HCZ,HII,axq,axp,axo,HIX⟩:=jo hc hcz hii ate atd atc hix;clear hc hcz hii ate atd atc hix
 go_in
 go_wp2_with fail
 go_loopw [10,3] (fun iv sv wr=>∃i:Nat,i≤8∧iv= .int .i64 (i:Int)∧(∃A c,sv= .slice A i c∧aA wr (fun b=>w.heap.size≤b) 3 1 (.slice A i c) i (adk (ss.take i)))∧Fr No w wr) (fun iv _ _=>8-(intOf iv).toNat)
 case atStart=>exact ⟨0,by omega,rfl,⟨none,0,rfl,aA.nil _ _ _ _⟩,Fr.refl _ _⟩
 obtain ⟨i,hi,rfl,⟨A,cc,rfl,ho⟩,hfr⟩:=hrel;obtain ⟨HO,HF⟩:=aN ho hfr;clear ho hfr
 by_cases hi8:i<8
 ·have d1:decide (i<8)=true:=decide_eq_true hi8
  have hx:ss[i]? =some ss[i]:=List.getElem?_eq_getElem oy;generalize ss[i]=x at hx;have hix:=HIX.out i x hx;have HX:=O hx;clear hx;clear hld
  go_upto_region 5 with fail
  have hf1:=aj wr (.cells #[.int .i64 x.nm,.int .i64 x.rp.er,.int .i64 x.rp.sq,.int .i64 x.rp.it,.string x.rp.vl] 216);have hoF:=HO.out.au hf1;have hf2:=HF.out.ah hf1;obtain ⟨W1,hW1⟩:∃W1,W1=wr.alloc (.cells #[.int .i64 x.nm,.int .i64 x.rp.er,.int .i64 x.rp.sq,.int .i64 x.rp.it,.string x.rp.vl] 216):=⟨_,rfl⟩;obtain ⟨g5,hg5⟩:∃g5,g5=wr.heap.size:=⟨_,rfl⟩;have b5:Blk W1 g5 216 #[.int .i64 x.nm,.int .i64 x.rp.er,.int .i64 x.rp.sq,.int .i64 x.rp.it,.string x.rp.vl]:=by rw [hW1,hg5];exact Blk.new _ _ _
  rw [←hW1] at hoF hf2 ⊢;rw [←hg5];have y0:=b5.cell 0;obtain ⟨HW1,HG5⟩:=aN hW1 hg5;clear hf1 hW1 hg5 b5;have hlr:=hf2.size;obtain ⟨HOF,HF2⟩:=aN hoF hf2;clear hoF hf2
  go_wp2_with (at_builtin;refine aB _ rfl (.tmp 13) (.tmp 16) _ rfl 0 3 ii _ 1 8 Tryz.underlying44 HII.out axq.out axp.out axo.out rfl dcd (.slice A i cc) i (adk (ss.take i)) rfl (HOF.out.au (aj _ _)).1 (W1.heap.size+1) (some ⟨W1.heap.size,0,none⟩) 1 1 [.int .i64 x.nm] rfl (fun h=>by cases h) (Rd.new W1 _ 3 rfl) rfl (by simp [Value.oneCell']) mxl oy (Nat.zero_le _) ?_)
  intro v1 w2 happ;obtain ⟨o1,f1⟩:=(HOF.out.au (aj _ _)).appended happ;obtain ⟨A4,c4,rfl,-⟩:=o1.form;have hfz:Fr No w w2:=(HF2.out.ah (aj _ _)).aD f1 (fun i hi=>hi);have hoz:aA w2 (fun b=>w.heap.size≤b) 3 1 (.slice A4 (i+1) c4) (i+1) (adk (ss.take (i+1))):=by
   have:=o1.mono (G:=fun b=>w.heap.size≤b) (fun b hb=>hb.elim id (fun h=>by have h1:=h.1;simp at h1;omega));rw [List.take_add_one,HX.out]
   simpa [adk] using this
  obtain ⟨HFZ,HOZ⟩:=aN hfz hoz;clear happ o1 f1 hfz hoz
  go_wp2_with fail
  go_roundw
  case rel=>exact ⟨i+1,by omega,by go_num,⟨A4,c4,rfl,HOZ.out⟩,HFZ.out⟩
  case measure=>simp [intOf];omega
 ·obtain rfl:i=8:=by omega
  go_wp2_with fail
  go_ret
  have h8:ss.take 8=ss:=List.take_of_length_le oy;rw [h8] at HO;exact ⟨_,_,rfl,HO.out,HF.out⟩
set_option maxHeartbeats 8000000 in
theorem zk {p:Nat}{c:Kp}(h:aM w F p c):Calls Tryz.prog 23 #[.pointer (some ⟨p,0,none⟩)] w (pJ w 3 1 8 (adk c.nw.ss)):=by
 obtain ⟨s,q,t,g,Ah,ch,hb,ho,hn,hk⟩:=h.at_;have hcl:=xV hn.2.2;have c0:=hb.cell 5;simp only [List.getElem?_toArray,List.getElem?_cons_zero,List.getElem?_cons_succ] at c0;clear hb ho hn hk h
 go_in
 go_wp2_with fail
 refine hcl.mono ?_;clear hcl;rintro r w5 ⟨A5,c5,rfl,o5,f5⟩
 go_wp2_with fail
 go_ret
 exact ⟨A5,c5,rfl,o5,f5⟩
end
section
variable {w w' :World}{F G:Nat→Prop}
set_option maxHeartbeats 8000000 in
theorem ank {A:Option Addr}{c:Nat}{l:List Ch}(h:aA w F TCh 8 (.slice A l.length c) l.length (chV l)){i:Nat}(hi:i≤l.length):
  Calls Tryz.prog 86 #[.slice A l.length c,.int .i64 (i:Int),.int .i64 (l.length:Int)] w fun e w' =>e= .returned (.slice A i c)∧aA w' F TCh 8 (.slice A i c) i (chV (l.take i))∧Fr F w w' :=by
 obtain ⟨i0,hi0,hz0,hz1,hz2⟩:=info_parts iK;obtain ⟨hc1,hc2⟩:=h.cap;have hb1:(i:Int)≤(l.length:Int):=by omega
 have hb2:(l.length:Int)≤(c:Int):=by omega
 have hb3:(i:Int)≤(c:Int):=by omega
 obtain ⟨n,hn⟩:∃n,n=l.length:=⟨_,rfl⟩;rw [←hn] at h hi hc1 hb1 hb2 ⊢
 rcases Nat.eq_or_lt_of_le hi with hil|hil
 ·have hfin:aA w F TCh 8 (.slice A i c) i (chV (l.take i)):=by rw [hil,hn,List.take_length,←hn];exact h
  subst hil;have eu:=O hfin;unfold maxLen at hc2;clear h hfin hi0 hz0 hz1 hz2 hn
  go_in
  go_wp2_with fail
  all_goals go_ret
  all_goals exact ⟨rfl,eu.out,Fr.refl _ _⟩
 ·have hne:¬(i=n):=by omega
  have hne' :¬(n=i):=by omega
  obtain ⟨g,hA⟩:∃g,A=some ⟨g,0,none⟩:=by
   rcases h.1.2 with ⟨h0,h1⟩|⟨g,cap,cur,hv,-⟩
   ·omega
   ·injection hv with e1;exact ⟨g,e1⟩
  subst hA;obtain ⟨cur,hbl,hcz,hFg⟩:=h.ahq;have ht:Tryz.prog.underlying 41=some (.slice TCh):=by kernel_rfl
  obtain ⟨ad,hs2,had⟩:=jU 41 TCh ht i0 hi0 g n c n oy;have hs1:=rD 41 TCh ht i0 hi0 g n c i oy;rw [Nat.sub_self] at hs2;have hzl:=zI (Value.cells (.agg #[.int .i64 0,.int .i64 0,.int .i64 0,.int .i64 0,.int .i64 0,.int .i64 0,.string ⟨#[]⟩,.string ⟨#[]⟩])) (n-i);have hzs:(Value.cells (.agg #[.int .i64 0,.int .i64 0,.int .i64 0,.int .i64 0,.int .i64 0,.int .i64 0,.string ⟨#[]⟩,.string ⟨#[]⟩])).size=8:=rfl;rw [hzs] at hzl;have ahh:=(h.au (Fr.refl No w).drew).clr (k:=i) hi (Builtin.zeroCells (Value.cells (.agg #[.int .i64 0,.int .i64 0,.int .i64 0,.int .i64 0,.int .i64 0,.int .i64 0,.string ⟨#[]⟩,.string ⟨#[]⟩])) (n-i)).toList (by rw [hzl];omega);obtain ⟨W2,hW2⟩:∃W2,W2=w.drew.setCells g (i*8) (Builtin.zeroCells (Value.cells (.agg #[.int .i64 0,.int .i64 0,.int .i64 0,.int .i64 0,.int .i64 0,.int .i64 0,.string ⟨#[]⟩,.string ⟨#[]⟩])) (n-i)).toList:=⟨_,rfl⟩;have hcl:∀ty,(Builtin.clear_ #[41] ty #[.slice (some ⟨g,i*8,none⟩) (n-i) (c-i)]).run Tryz.prog w.drew= .ok (.tuple #[]) W2:=by
   intro ty;rw [hW2];refine jy w.drew _ TCh ty _ ht (fun w=>by simp [zeroValue,typeInfo,hi0,hz0]) dcd (by intro v hv;simp [Value.cells] at hv;rcases hv with rfl|rfl<;>rfl) g _ _ _ oy (fun j hj=> ?_) (fun j hj=>hbl.frozen _);rw [hzs] at hj
   show (w.cell? _).isSome=true
   rw [hbl.cell,Array.getElem?_eq_getElem oy]
   rfl
  rw [←hW2,xB] at ahh;obtain ⟨W1,hW1⟩:∃W1,W1=w.drew.setCells g (0+i*8) []:=⟨_,rfl⟩;have hWd:W1=w.drew:=hW1;have hfr2:Fr F w W2:=(Fr.refl F w).drew.trans ahh.2 (fun _ h=> .inl h);rw [←hWd] at hcl;obtain ⟨HW1,axw⟩:=aN hW1 hfr2;clear hW1 hWd hfr2;obtain ⟨ape,hIS⟩:=aN ahh hz1;have S3:Hid (∀j,j<([]:List Value).length→(w.drew.cell? ⟨g,0+i*8+j,none⟩).isSome=true∧w.drew.frozen? ⟨g,0+i*8+j,none⟩=false):=O (fun j hj=>absurd hj (by simp));obtain ⟨HI0,HT⟩:=aN hi0 ht;clear ahh hzl hzs hbl hcz hFg hW2 had h hi0 hz0 hz1 hz2 ht;unfold maxLen at hc2;have HN:=O hn;clear hn
  go_in
  go_upto_region 5 with fail
  go_region_law (refine step_append_room rfl (.tmp 22) (.tmp 25) 41 rfl TCh i0 8 HT.out HI0.out hIS.out g 0 i c (by simp [Act.eval,Act.put]) ad 0 (c-n) [] (by simp [Act.eval,Act.put]) rfl (fun j u hu=>by simp at hu) (fun u hu=>by simp at hu) oy S3.out ?_;rw [←HW1.out])
  all_goals go_wp2_with fail
  all_goals go_ret
  all_goals exact ⟨rfl,ape.out.1,axw.out⟩
end
section
variable {w w' :World}{F G:Nat→Prop}
theorem mP (s:Nw)(x:Ch)(h:s.its.length≤16):(cu s x).2.its.length≤16:=by
 unfold cu
 split
 ·exact h
 split
 ·exact h
 ·show (gD s.its s.les s.gr x).2.1.length≤16
  unfold gD
  split
  ·exact h
  split
  ·split
   ·exact h
   split
   ·exact h
   ·rename_i h16
    simp
    omega
  split
  ·split
   ·exact Nat.le_trans (List.length_eraseP_le ..) h
   ·exact h
  ·exact h
structure Tru (w:World) (F:Nat→Prop) (p g s q t:Nat) (cell ten cd:Int) (ws:List Wn) (Ah:Option Addr) (ch n:Nat) (xs:List Value) (W:World):Prop where
 bp:Blk W p nW #[.int .i64 cell,.int .i64 ten,.slice Ah n ch,.pointer (some ⟨s,0,none⟩),.pointer (some ⟨q,0,none⟩),.pointer (some ⟨t,0,none⟩),.pointer (some ⟨g,0,none⟩)]
 oh:aA W (Of w F [TCh+1]) TCh 8 (.slice Ah n ch) n xs
 gt:bY W (Of w F ad7) g cell cd ws
 fr:Fr F w W
 hp:Of w F [nW+1] p
theorem aql {e:TypeId}{v:Value}{size n:Nat}{ys:List Value}(h:aA w F e size v n ys):aA w (Of w F [e+1]) e size v n ys:=h.of (by simp)
theorem ak8 {W:World}{p g s q t n m:Nat}{cell ten cd:Int}{ws:List Wn}{Ah:Option Addr}{ch:Nat}{xs ys:List Value}(hb:Blk w p nW #[.int .i64 cell,.int .i64 ten,.slice Ah m ch,.pointer (some ⟨s,0,none⟩),.pointer (some ⟨q,0,none⟩),.pointer (some ⟨t,0,none⟩),.pointer (some ⟨g,0,none⟩)])(hp:Of w F [nW+1] p)(ho:aA w (Of w F [TCh+1]) TCh 8 (.slice Ah m ch) m ys)(hk:bY w F g cell cd ws)
  (o5:aA W (fun i=>(Value.slice Ah m ch).ownBlock=some i) TCh 8 (.slice Ah n ch) n xs) (f5:Fr (fun i=>(Value.slice Ah m ch).ownBlock=some i) w.drew W):Tru w F p g s q t cell ten cd ws Ah ch n xs (W.setCell ⟨p,2,none⟩ (.slice Ah n ch)):=by
 have f6:Fr (fun i=>(Value.slice Ah m ch).ownBlock=some i) w W:=(Fr.refl _ w).drew.trans f5 (fun _ h=> .inl h);have hw:=gU W ⟨p,2,none⟩ (.slice Ah n ch);have hb5:=hb.fr f6 (fun e=>ho.aW hb dcd _ e rfl);have hk5:=hk.of.fr f6 (fun i hi e=>hi.apart dcd (ho.2 i e));refine ⟨(hb5.aC 2 _).cv rfl,(o5.fr' hw (o5.aW hb5 dcd)).mono (fun i hi=>ho.2 i hi),hk5.fr hw (fun i hi e=>by have e:i=p:=e;subst e;exact hi.apart dcd hp),(Fr.trans (Fr.refl F w) f6 (fun i e=> .inl (ho.2 i e).sub)).setCell (p:=⟨p,2,none⟩) (.inl hp.sub) _,hp⟩
set_option maxHeartbeats 8000000 in
theorem oN {p:Nat}{c:Kp}(h:aM w F p c)(n:Nat)(hn:n≤c.h.length)(hh:c.h.length≤1000000)(hs:∀x∈c.h,x.ky.size≤maxLen∧x.vl.size≤maxLen):
  Calls Tryz.prog 51 #[.pointer (some ⟨p,0,none⟩),.int .i64 (n:Int)] w fun e w' =>e= .returned (.int .i64 0)∧CTo w F p (aO c n) w' :=by
 have hlen:=fun V (hV:Fr No w V)=>bQ (h.au hV);obtain ⟨s,q,t,g,Ah,ch,hb,ho,hnn,hk⟩:=h.at_;have d1:decide (c.h.length<n)=false:=dff;have d0:decide ((n:Int)<0)=false:=dff;have hdel:=fun V (hV:Fr No w V)=>ank (((ho.of (T:=[TCh+1]) dcd).au hV).self) hn;have p2:=hb.cell 2;have z2:=hb.frozen 2;simp only [List.getElem?_toArray,List.getElem?_cons_zero,List.getElem?_cons_succ] at p2;have H:=O h;clear h;obtain ⟨HLEN,apd,HB,HO,HNN,HK,HS⟩:=jo hlen hdel hb ho hnn hk hs;clear hlen hdel hb ho hnn hk hs
 go_in
 go_wp2_with (go_at_call 16;refine (HLEN.out _ (Fr.refl _ _)).mono ?_;rintro e v ⟨rfl,hv⟩;obtain rfl:=hv.symm)
 have HP:=O (HB.out.of (T:=[nW+1]) H.out.fp dcd);have hho:=aql HO.out;have HH:=O hho;clear hho
 go_cut [] from 15 to 28 (fun wx=>Tru w F p g s q t c.cell c.ten c.cd c.ws Ah ch n (chV (c.h.take n)) wx)
 case first=>
  go_region_with (go_at_call 86;refine (apd.out _ ((Fr.refl No w).drew)).mono ?_;rintro e w5 ⟨rfl,o5,f5⟩;have O5:=O o5;have F5:=O f5;have p2_:=((Blk.fr (F:=fun i=>(Value.slice Ah c.h.length ch).ownBlock=some i) (w:=w.drew) HB.out f5 (fun e=>HO.out.aW HB.out dcd _ e rfl))).cell 2;have z2_:=((Blk.fr (F:=fun i=>(Value.slice Ah c.h.length ch).ownBlock=some i) (w:=w.drew) HB.out f5 (fun e=>HO.out.aW HB.out dcd _ e rfl))).frozen 2;clear o5 f5)
  all_goals go_wp2_with fail
  all_goals go_meet
  all_goals exact ak8 HB.out HP.out HH.out HK.out O5.out F5.out
 have HT:=O hcut;clear hcut p2 z2
 go_upto_region 4 with fail
 go_wp2_with fail
 refine (wN wc).mono ?_;rintro r w6 ⟨s',q',t',rfl,h6,f6⟩;obtain ⟨H6,F6⟩:=aN h6 f6;have b6:=HT.out.bp.fr f6 id;have p3:=b6.cell 3;have p4:=b6.cell 4;have p5:=b6.cell 5;have z3:=b6.frozen 3;have z4:=b6.frozen 4;have z5:=b6.frozen 5;simp only [List.getElem?_toArray,List.getElem?_cons_zero,List.getElem?_cons_succ] at p3 p4 p5;clear h6 f6
 go_upto_region 5 with fail
 have hln:(c.h.take n).length=n:=by rw [List.length_take];omega
 have hws:w.heap.size≤wc.heap.size:=HT.out.fr.size;have hq:=ahl (w:=w) (F:=F) (c:={c with h:=c.h.take n}) (ch:=ch) (Ah:=Ah) (n' :=nw0) b6 (by show aA w6 _ TCh 8 (.slice Ah (c.h.take n).length ch) (c.h.take n).length (chV (c.h.take n));rw [hln];exact HT.out.oh.au F6.out) ((H6.out).mono fun i hi=>Nat.le_trans hws hi) (HT.out.gt.fr F6.out (fun _ _ h=>h)) (HT.out.fr.trans F6.out (fun _ h=>h.elim)) HT.out.hp;have atu:Fr F w w6:=HT.out.fr.trans F6.out (fun _ h=>h.elim);clear b6 p3 p4 p5 z3 z4 z5;generalize World.setCell (World.setCell (World.setCell w6 _ _) _ _) _ _=W7 at hq ⊢;obtain ⟨bp7,oh7,nw7,gt7,f7⟩:=hq;have att:Fr F w W7:=atu.trans f7 (fun i e=> .inl (by have e:i=p:=e;rw [e];exact HT.out.hp.sub));have p2:=bp7.cell 2;simp only [List.getElem?_toArray,List.getElem?_cons_zero,List.getElem?_cons_succ] at p2;have asu :aA W7 (Of w F [TCh+1]) TCh 8 (.slice Ah n ch) n (chV (c.h.take n)):=by have:=oh7;rw [hln] at this;exact this
 have nM:=O (And.intro nw7 (And.intro bp7 (And.intro asu (And.intro gt7 att))));clear nw7 bp7 oh7 asu gt7 f7 att atu hln
 go_wp2_with fail
 go_loopw [38] (fun iv wr=>∃i:Nat,i≤n∧iv= .int .i64 (i:Int)∧((c.h.take i).foldl (fun s x=>(cu s x).2) nw0).its.length≤16∧(gI wr (fun j=>w.heap.size≤j) s' q' t' ((c.h.take i).foldl (fun s x=>(cu s x).2) nw0)∧Blk wr p nW #[.int .i64 c.cell,.int .i64 c.ten,.slice Ah n ch,.pointer (some ⟨s',0,none⟩),.pointer (some ⟨q',0,none⟩),.pointer (some ⟨t',0,none⟩),.pointer (some ⟨g,0,none⟩)]∧aA wr (Of w F [TCh+1]) TCh 8 (.slice Ah n ch) n (chV (c.h.take n))∧bY wr (Of w F ad7) g c.cell c.cd c.ws∧Fr F w wr)) (fun iv _=>n-(intOf iv).toNat)
 case atStart=>exact ⟨0,by omega,rfl,by simp [nw0],nM.out⟩
 obtain ⟨i,hi,rfl,hits,hnw,hbp,hoh,hgt,hfw⟩:=hrel;obtain ⟨HNW,HBP,HOH,HGT,HFW,HITS⟩:=oK hnw hbp hoh hgt hfw hits;clear hnw hbp hoh hgt hfw hits p2
 by_cases hin:i<n
 ·have d2:decide (i<n)=true:=decide_eq_true hin
  have hln:(c.h.take n).length=n:=by rw [List.length_take];omega
  obtain ⟨b,off,x,hA,hx,hcx⟩:=HOH.out.rd.lI (l:=c.h.take n) (i:=i) oy;subst hA;obtain ⟨e0,e1,e2,e3,e4,e5,e6,e7⟩:=hcx wr (Fr.refl _ _);have hin' :(i:Int)<(n:Int):=by omega
  clear hcx;have HX:=O hx;clear hx hln
  go_upto_region 8 with fail
  have hxs:=HS.out x (List.mem_of_mem_take (List.mem_of_getElem? HX.out));obtain ⟨w8,hw8⟩:∃w8,w8=wr.alloc (.cells #[.int .i64 x.ep,.int .i64 x.sq,.int .i64 x.kd,.int .i64 x.cl,.int .i64 x.nm,.int .i64 x.it,.string x.ky,.string x.vl] 54):=⟨_,rfl⟩;obtain ⟨g8,hg8⟩:∃g8,g8=wr.heap.size:=⟨_,rfl⟩;have f8:Fr No wr w8:=by rw [hw8];exact aj _ _
  have b8:Blk w8 g8 TCh #[.int .i64 x.ep,.int .i64 x.sq,.int .i64 x.kd,.int .i64 x.cl,.int .i64 x.nm,.int .i64 x.it,.string x.ky,.string x.vl]:=by rw [hw8,hg8];exact Blk.new _ _ _
  rw [←hw8,←hg8];clear hw8 hg8 e0 e1 e2 e3 e4 e5 e6 e7;have hb:=b8.cell;have e0:=hb 0;have e1:=hb 1;have e2:=hb 2;have e3:=hb 3;have e4:=hb 4;have e5:=hb 5;have e6:=hb 6;have e7:=hb 7;have bp8:=HBP.out.fr f8 id;have p3:=bp8.cell 3;have p4:=bp8.cell 4;have p5:=bp8.cell 5;simp only [List.getElem?_toArray,List.getElem?_cons_zero,List.getElem?_cons_succ] at e0 e1 e2 e3 e4 e5 e6 e7 p3 p4 p5;have ana:=ac9 (w:=w8.drew) ((HNW.out.fr f8 (fun _ _ h=>h)).fr (Fr.refl No w8).drew (fun _ _ h=>h)) x hxs.1 hxs.2 (by have:=HITS.out;omega);have F8:=O f8;clear hb bp8 b8 f8 hxs;have ax0:=O ana;clear ana
  go_region_with (go_at_call 87;refine ax0.out.mono ?_;rintro r w9 ⟨rfl,hn9,f9⟩;have N9:=O hn9;have F9:=O f9;clear hn9 f9)
  all_goals
   have aya:=F8.out.size;have av7:=HFW.out.size;have hin2:=HT.out.hp.lt;have hf:∀j,w.heap.size≤j→¬Of w F [nW+1] j:=fun j hj h=>by have:=h.lt;omega
   obtain ⟨N,BP,OH,GT,FW⟩:=jq (N9.out.mono (G:=fun j=>w.heap.size≤j) (fun j hj=>hj.elim id (fun h=>by have h:w8.heap.size≤j:=h;omega))) ((HBP.out.fr F8.out.drew id).fr (w:=w8.drew) F9.out (fun h=>by have h:w.heap.size≤p:=h;omega)) (aA.frF (w:=w8.drew) (HOH.out.au F8.out.drew) F9.out (fun j h e=>by have:=h.lt;have e:w.heap.size≤j:=e;omega)) (bY.fr (w:=w8.drew) (HGT.out.fr F8.out.drew (fun _ _ h=>h)) F9.out (fun j h e=>by have:=h.lt;have e:w.heap.size≤j:=e;omega)) (((HFW.out.trans F8.out (fun _ h=>h.elim)).drew).trans F9.out (fun j h=> .inr h));have hst:(c.h.take (i+1)).foldl (fun s x=>(cu s x).2) nw0=(cu ((c.h.take i).foldl (fun s x=>(cu s x).2) nw0) x).2:=by
    have hxx:c.h[i]? =some x:=by have:=HX.out;rw [List.getElem?_take,if_pos hin] at this;exact this
    rw [List.take_add_one,hxx];simp [List.foldl_append]
   go_wp2_with fail
   go_roundw
   case rel=>exact ⟨i+1,by omega,by go_num,by rw [hst];exact mP _ _ HITS.out,by rw [hst];exact ⟨N.out,BP.out,OH.out,GT.out,FW.out⟩⟩
   case measure=>simp [intOf];omega
 ·have d2:decide (i<n)=false:=decide_eq_false hin
  obtain rfl:i=n:=by omega
  go_wp2_with fail
  go_ret
  have hln:(c.h.take i).length=i:=by rw [List.length_take];omega
  exact ⟨rfl,_,vE (F:=fun j=>F j∨w.heap.size≤j) (c:=aO c i) (Ah:=Ah) (ch:=ch) (.inl HT.out.hp.sub) (HBP.out.cv (by simp only [aO];rw [hln])) (by simp only [aO];rw [hln];exact HOH.out.mono fun j hj=> .inl hj.sub) (HNW.out.mono fun j hj=> .inr hj) (HGT.out.mono fun j hj=> .inl hj.sub),fun j hj=>hj.1,HFW.out⟩
end
end Go.Proofs.YtodkhcbjpodgeaaGreat
