/-
  The law's 'same': a replica and the reference's that are the same.
-/
import Derived.Test.YtjnfmfmglehmbaaY20
import Derived.Test.YtjnfmfmglehmbaaY17
import Derived.Test.YtjnfmfmglehmbaaY04
import Derived.Test.YtjnfmfmglehmbaaY16
import Derived.Deep.RegionHeld3
namespace Go.Proofs.Ytjnfmfmglehmbaa
open Go.ChangeShapes Go.WideShapes Go.ChangeAt Go.RowKit
set_option linter.unusedVariables false
set_option maxRecDepth 100000
set_option maxHeartbeats 16000000
def Sm9 (W6:World) (g6:Nat) (x:Lg) (ok:Bool) (v u:Value) (W:World):Prop:=
 ∃g7,v= .pointer (some ⟨g7,0,none⟩)∧u= .bool ok∧Blk W g6 TLg x.cells.toArray∧Blk W g7 TLg x.cells.toArray∧Fr No W6 W
theorem Sm9.mk' {W6 Z:World} {g6 g7:Nat} {ok:Bool} (x:Lg) (h6:Blk W6 g6 TLg #[.int .i64 x.term,.int .i64 x.e.kind,.int .i64 x.e.tick,.int .i64 x.e.tenant,.int .i64 x.e.cell,.int .i64 x.e.other,.int .i64 x.e.epoch,.int .i64 x.e.from_,.int .i64 x.e.until_,.int .i64 x.e.n]) (hb:Blk Z g7 TLg #[.int .i64 0,.int .i64 0,.int .i64 0,.int .i64 0,.int .i64 0,.int .i64 0,.int .i64 0,.int .i64 0,.int .i64 0,.int .i64 0]) (hf:Fr No W6 Z) (hg:W6.heap.size≤g7):
  Sm9 W6 g6 x ok (.pointer (some ⟨g7,0,none⟩)) (.bool ok) (World.setCell (World.setCell (World.setCell (World.setCell (World.setCell (World.setCell (World.setCell (World.setCell (World.setCell (World.setCell Z ⟨g7,0,none⟩ (.int .i64 x.term)) ⟨g7,1,none⟩ (.int .i64 x.e.kind)) ⟨g7,2,none⟩ (.int .i64 x.e.tick)) ⟨g7,3,none⟩ (.int .i64 x.e.tenant)) ⟨g7,4,none⟩ (.int .i64 x.e.cell)) ⟨g7,5,none⟩ (.int .i64 x.e.other)) ⟨g7,6,none⟩ (.int .i64 x.e.epoch)) ⟨g7,7,none⟩ (.int .i64 x.e.from_)) ⟨g7,8,none⟩ (.int .i64 x.e.until_)) ⟨g7,9,none⟩ (.int .i64 x.e.n)):=
 ⟨g7,rfl,rfl,h6.fr (lg_fill_fr x hf hg) (fun h=>h),lg_fill x hb,lg_fill_fr x hf hg⟩
theorem Sm9.mkA {W6 Z:World} {g6:Nat} {ok:Bool} (x:Lg) (h6:Blk W6 g6 TLg #[.int .i64 x.term,.int .i64 x.e.kind,.int .i64 x.e.tick,.int .i64 x.e.tenant,.int .i64 x.e.cell,.int .i64 x.e.other,.int .i64 x.e.epoch,.int .i64 x.e.from_,.int .i64 x.e.until_,.int .i64 x.e.n]) (hf:Fr No W6 Z):
  Sm9 W6 g6 x ok (.pointer (some ⟨Z.heap.size,0,none⟩)) (.bool ok) (Z.alloc (.cells #[.int .i64 x.term,.int .i64 x.e.kind,.int .i64 x.e.tick,.int .i64 x.e.tenant,.int .i64 x.e.cell,.int .i64 x.e.other,.int .i64 x.e.epoch,.int .i64 x.e.from_,.int .i64 x.e.until_,.int .i64 x.e.n] TLg)):=
 ⟨_,rfl,rfl,h6.fr (hf.alloc _) (fun h=>h),Blk.new _ _ _,hf.alloc _⟩
set_option maxRecDepth 100000 in
set_option maxHeartbeats 8000000 in
theorem same9_any {w:World} {F G:Nat→Prop} {p q:Nat} {r:Rs} {N M:Nat} (hp:RAt w F p r N) (hr:RRAt w G q r M):
  Calls Try.prog 6 #[.pointer (some ⟨p,0,none⟩),.pointer (some ⟨q,0,none⟩)] w fun e w' =>e= .returned (.bool true)∧Fr No w w' :=by
 have hfew:=hp.ok.log.few
 have hR:=fun V (hf:Fr No w V)=>p_role (hp.frNo hf)
 have hC:=fun V (hf:Fr No w V)=>p_commit (hp.frNo hf)
 have hT:=fun V (hf:Fr No w V)=>p_term ((hp.frNo hf).rj)
 have hV:=fun V (hf:Fr No w V)=>p_vote ((hp.frNo hf).rj)
 have hL:=fun V (hf:Fr No w V)=>p_len ((hp.frNo hf).rj)
 have hA:=fun V (hf:Fr No w V) i=>p_at ((hp.frNo hf).rj) i
 have hLg:=fun V (hf:Fr No w V)=>(p_log ((hp.frNo hf).rj) hfew).mono (R' :=fun e w' =>∃A c,e= .returned (.slice A r.js.log.length c)∧Ent w' (fun b=>V.heap.size≤b) (.slice A r.js.log.length c) r.js.log∧Fr No V w') fun e w' ⟨A,c,he,ho,hf⟩=>⟨A,c,he,Ent.of_own ho,hf⟩
 obtain ⟨j,Fj,Vv,X,Mm,bs,xs,ms,h1,h2,h3,h4,h5,h6,h7,h8⟩:=hr
 obtain ⟨d,Al,cl,b1,b2,b3⟩:=h3.open_
 have hRA:=fun V (hf:Fr No w V) i=>rg_at (h3.frNo hf) i
 have hE:=fun V (hf:Fr No w V)=>(Ent.of_own b3).frNo hf
 have hSL:=fun V A c (G1:Nat→Prop) (hf:Fr No w V) (ho:Ent V G1 (.slice A r.js.log.length c) r.js.log)=>same_logged ho (hE V hf)
 simp only [decide_true] at hSL
 have hk:∀V,Fr No w V→V.cell? ⟨q,0,none⟩=some (.pointer (some ⟨j,0,none⟩))∧V.cell? ⟨q,3,none⟩=some (.int .i64 r.role)∧V.cell? ⟨q,4,none⟩=some (.int .i64 r.commit)∧V.cell? ⟨j,1,none⟩=some (.int .i64 r.js.term)∧V.cell? ⟨j,2,none⟩=some (.int .i64 r.js.vote)∧V.cell? ⟨j,3,none⟩=some (.slice Al r.js.log.length cl):=fun V hf=>let g:=h1.fr hf (fun h=>h);let k:=b1.fr hf (fun h=>h);⟨g.cell 0,g.cell 3,g.cell 4,k.cell 1,k.cell 2,k.cell 3⟩
 obtain ⟨n,hn⟩:∃n,n=r.js.log.length:=⟨_,rfl⟩
 simp only [←hn] at hk hL hfew hSL hLg
 have hw:IntKind.i64.wrap ((n:Int)-1)=(n:Int)-1:=IntWalk.i64_in _ (by omega)
 replace hA:=fun V hf=>hA V hf ((n:Int)-1)
 replace hRA:=fun V hf=>hRA V hf ((n:Int)-1)
 generalize r.role=role at*
 generalize (r.commit:Int)=cm at*
 generalize r.js.term=tm at*
 generalize r.js.vote=vt at*
 generalize (atJ r.js.log ((n:Int)-1)).2=ok at*
 generalize (atJ r.js.log ((n:Int)-1)).1=x at*
 have hN:=fun W=>lg_eql x x W
 simp only [decide_true] at hN
 obtain ⟨t,⟨kd,tick,te,ce,ot,ep,fr,un,nn⟩⟩:=x
 unfold Lg.v at hA hRA hN
 simp only at hA hRA hN
 have hG:=fun (u v:Operand) (V:World)=>lg_guard .eql u v #[.int .i64 t,.int .i64 kd,.int .i64 tick,.int .i64 te,.int .i64 ce,.int .i64 ot,.int .i64 ep,.int .i64 fr,.int .i64 un,.int .i64 nn] #[.int .i64 t,.int .i64 kd,.int .i64 tick,.int .i64 te,.int .i64 ce,.int .i64 ot,.int .i64 ep,.int .i64 fr,.int .i64 un,.int .i64 nn] V
 obtain ⟨c0,c3,c4,d1,d2,d3⟩:=hk w (Fr.refl No w)
 clear hp h1 h2 h3 h4 h5 h6 h7 h8 b1 b2 b3 hE
 have HN' :=Lib.hid hn
 clear hn
 have HR:=Lib.hid hR
 have HC:=Lib.hid hC
 have HT:=Lib.hid hT
 have HV:=Lib.hid hV
 have HL:=Lib.hid hL
 have HA:=Lib.hid hA
 have HLG:=Lib.hid hLg
 have HRA:=Lib.hid hRA
 have HSL:=Lib.hid hSL
 have HK:=Lib.hid hk
 clear hR hC hT hV hL hA hLg hRA hSL hk
 go_enter Try.func6,Try.ntmps6
 go_wp2_with fail
 refine (HA.out _ (Fr.refl No w)).mono ?_
 rintro e w6 ⟨rfl,f6⟩
 have B6:=Lib.hid (Blk.new w6 TLg #[.int .i64 t,.int .i64 kd,.int .i64 tick,.int .i64 te,.int .i64 ce,.int .i64 ot,.int .i64 ep,.int .i64 fr,.int .i64 un,.int .i64 nn])
 have F6:=Lib.hid (f6.alloc (.cells #[.int .i64 t,.int .i64 kd,.int .i64 tick,.int .i64 te,.int .i64 ce,.int .i64 ot,.int .i64 ep,.int .i64 fr,.int .i64 un,.int .i64 nn] TLg))
 obtain ⟨W6,hW6⟩:∃W6,W6=w6.alloc (.cells #[.int .i64 t,.int .i64 kd,.int .i64 tick,.int .i64 te,.int .i64 ce,.int .i64 ot,.int .i64 ep,.int .i64 fr,.int .i64 un,.int .i64 nn] TLg):=⟨_,rfl⟩
 rw [←hW6] at B6 F6
 clear f6 c0 c3 c4 d1 d2 d3
 obtain ⟨c0,c3,c4,d1,d2,d3⟩:=HK.out _ F6.out
 have HW6:=Lib.hid hW6
 clear hW6
 go_wp2_with fail
 rw [←HW6.out]
 clear HW6
 generalize w6.heap.size=g6 at*
 go_cut [7,8] (fun x y wx=>Sm9 W6 g6 ⟨t,⟨kd,tick,te,ce,ot,ep,fr,un,nn⟩⟩ ok x y wx)
 case first=>
  have hz1:=Nat.le_refl W6.heap.size
  have hz0:W6.heap.size≤(W6.alloc (.cells #[.int .i64 0,.int .i64 0,.int .i64 0,.int .i64 0,.int .i64 0,.int .i64 0,.int .i64 0,.int .i64 0,.int .i64 0,.int .i64 0] TLg)).heap.size:=by simp
  go_region_held3 (fun V=>V.cell? ⟨q,0,none⟩=some (.pointer (some ⟨j,0,none⟩))∧V.cell? ⟨q,3,none⟩=some (.int .i64 role)∧V.cell? ⟨q,4,none⟩=some (.int .i64 cm)∧V.cell? ⟨j,1,none⟩=some (.int .i64 tm)∧V.cell? ⟨j,2,none⟩=some (.int .i64 vt)∧V.cell? ⟨j,3,none⟩=some (.slice Al n cl)) (exact HK.out _ (F6.out.transNo (by repeat (with_reducible first|assumption|exact Fr.refl _ _|refine Fr.alloc ?_ _|refine Fr.drew ?_|refine Fr.drewN ?_ _|refine Fr.setCell ?_ (.inr (by assumption)) _)))) (first|(go_at_call 12;refine (HRA.out _ (F6.out.transNo (by repeat (first|assumption|exact Fr.refl _ _|refine Fr.alloc ?_ _|refine Fr.drew ?_|refine Fr.drewN ?_ _)))).mono ?_;rintro e w7 ⟨rfl,f7⟩;have Q7:Fr No W6 w7:=Fr.transNo (by repeat (first|assumption|exact Fr.refl _ _|refine Fr.alloc ?_ _|refine Fr.drew ?_|refine Fr.drewN ?_ _)) f7;have Q8:=Lib.hid f7;have hz2:=Q7.size;(try (have b7:=Blk.fr (Blk.drewA (Blk.new W6 TLg #[.int .i64 0,.int .i64 0,.int .i64 0,.int .i64 0,.int .i64 0,.int .i64 0,.int .i64 0,.int .i64 0,.int .i64 0,.int .i64 0])) f7 (fun h=>h);have y0:=b7.cell 0;have z0:=b7.frozen 0;have y1:=b7.cell 1;have z1:=b7.frozen 1;have y2:=b7.cell 2;have z2:=b7.frozen 2;have y3:=b7.cell 3;have z3:=b7.frozen 3;have y4:=b7.cell 4;have z4:=b7.frozen 4;have y5:=b7.cell 5;have z5:=b7.frozen 5;have y6:=b7.cell 6;have z6:=b7.frozen 6;have y7:=b7.cell 7;have z7:=b7.frozen 7;have y8:=b7.cell 8;have z8:=b7.frozen 8;have y9:=b7.cell 9;have z9:=b7.frozen 9;have B7:=Lib.hid b7;clear b7));clear f7))
  all_goals
   (try go_wp2_with fail)
   go_meet
   first
   |with_reducible exact Sm9.mkA ⟨t,⟨kd,tick,te,ce,ot,ep,fr,un,nn⟩⟩ B6.out Q7
   |with_reducible exact Sm9.mk' ⟨t,⟨kd,tick,te,ce,ot,ep,fr,un,nn⟩⟩ B6.out B7.out Q7 (Nat.le_refl _)
 obtain ⟨g7,rfl,rfl,b6,b7,f7⟩:=hcut
 have F7:=Lib.hid (F6.out.transNo f7)
 generalize wc=W7 at*
 clear f7 B6 F6 c0 c3 c4 d1 d2 d3
 have hS:∀V,Fr No W7 V→((V.cell? ⟨g6,0,none⟩=some (.int .i64 t)∧V.cell? ⟨g6,1,none⟩=some (.int .i64 kd)∧V.cell? ⟨g6,2,none⟩=some (.int .i64 tick)∧V.cell? ⟨g6,3,none⟩=some (.int .i64 te)∧V.cell? ⟨g6,4,none⟩=some (.int .i64 ce)∧V.cell? ⟨g6,5,none⟩=some (.int .i64 ot)∧V.cell? ⟨g6,6,none⟩=some (.int .i64 ep)∧V.cell? ⟨g6,7,none⟩=some (.int .i64 fr)∧V.cell? ⟨g6,8,none⟩=some (.int .i64 un)∧V.cell? ⟨g6,9,none⟩=some (.int .i64 nn))∧(V.cell? ⟨g7,0,none⟩=some (.int .i64 t)∧V.cell? ⟨g7,1,none⟩=some (.int .i64 kd)∧V.cell? ⟨g7,2,none⟩=some (.int .i64 tick)∧V.cell? ⟨g7,3,none⟩=some (.int .i64 te)∧V.cell? ⟨g7,4,none⟩=some (.int .i64 ce)∧V.cell? ⟨g7,5,none⟩=some (.int .i64 ot)∧V.cell? ⟨g7,6,none⟩=some (.int .i64 ep)∧V.cell? ⟨g7,7,none⟩=some (.int .i64 fr)∧V.cell? ⟨g7,8,none⟩=some (.int .i64 un)∧V.cell? ⟨g7,9,none⟩=some (.int .i64 nn)))∧(V.cell? ⟨q,0,none⟩=some (.pointer (some ⟨j,0,none⟩))∧V.cell? ⟨q,3,none⟩=some (.int .i64 role)∧V.cell? ⟨q,4,none⟩=some (.int .i64 cm)∧V.cell? ⟨j,1,none⟩=some (.int .i64 tm)∧V.cell? ⟨j,2,none⟩=some (.int .i64 vt)∧V.cell? ⟨j,3,none⟩=some (.slice Al n cl)):=fun V hV=>let p:=b6.fr hV (fun h=>h);let q:=b7.fr hV (fun h=>h);⟨⟨⟨p.cell 0,p.cell 1,p.cell 2,p.cell 3,p.cell 4,p.cell 5,p.cell 6,p.cell 7,p.cell 8,p.cell 9⟩,⟨q.cell 0,q.cell 1,q.cell 2,q.cell 3,q.cell 4,q.cell 5,q.cell 6,q.cell 7,q.cell 8,q.cell 9⟩⟩,HK.out V (F7.out.transNo hV)⟩
 clear b6 b7
 ·have HS:=Lib.hid hS
  clear hS
  go_wp2_with fail
  simp only [List.append_eq,List.cons_append,List.nil_append]
  go_region_held3 (fun V=>((V.cell? ⟨g6,0,none⟩=some (.int .i64 t)∧V.cell? ⟨g6,1,none⟩=some (.int .i64 kd)∧V.cell? ⟨g6,2,none⟩=some (.int .i64 tick)∧V.cell? ⟨g6,3,none⟩=some (.int .i64 te)∧V.cell? ⟨g6,4,none⟩=some (.int .i64 ce)∧V.cell? ⟨g6,5,none⟩=some (.int .i64 ot)∧V.cell? ⟨g6,6,none⟩=some (.int .i64 ep)∧V.cell? ⟨g6,7,none⟩=some (.int .i64 fr)∧V.cell? ⟨g6,8,none⟩=some (.int .i64 un)∧V.cell? ⟨g6,9,none⟩=some (.int .i64 nn))∧(V.cell? ⟨g7,0,none⟩=some (.int .i64 t)∧V.cell? ⟨g7,1,none⟩=some (.int .i64 kd)∧V.cell? ⟨g7,2,none⟩=some (.int .i64 tick)∧V.cell? ⟨g7,3,none⟩=some (.int .i64 te)∧V.cell? ⟨g7,4,none⟩=some (.int .i64 ce)∧V.cell? ⟨g7,5,none⟩=some (.int .i64 ot)∧V.cell? ⟨g7,6,none⟩=some (.int .i64 ep)∧V.cell? ⟨g7,7,none⟩=some (.int .i64 fr)∧V.cell? ⟨g7,8,none⟩=some (.int .i64 un)∧V.cell? ⟨g7,9,none⟩=some (.int .i64 nn)))∧(V.cell? ⟨q,0,none⟩=some (.pointer (some ⟨j,0,none⟩))∧V.cell? ⟨q,3,none⟩=some (.int .i64 role)∧V.cell? ⟨q,4,none⟩=some (.int .i64 cm)∧V.cell? ⟨j,1,none⟩=some (.int .i64 tm)∧V.cell? ⟨j,2,none⟩=some (.int .i64 vt)∧V.cell? ⟨j,3,none⟩=some (.slice Al n cl))) (exact HS.out _ (by repeat (first|assumption|exact Fr.refl _ _|refine Fr.alloc ?_ _|refine Fr.drew ?_|refine Fr.drewN ?_ _))) (first
   |(go_at_call 13;refine (HR.out _ (F7.out.transNo (by repeat (first|assumption|exact Fr.refl _ _|refine Fr.alloc ?_ _|refine Fr.drew ?_|refine Fr.drewN ?_ _)))).mono ?_;rintro e w' ⟨rfl,rfl⟩)
   |(go_at_call 16;refine (HC.out _ (F7.out.transNo (by repeat (first|assumption|exact Fr.refl _ _|refine Fr.alloc ?_ _|refine Fr.drew ?_|refine Fr.drewN ?_ _)))).mono ?_;rintro e w' ⟨rfl,rfl⟩)
   |(go_at_call 14;refine (HT.out _ (F7.out.transNo (by repeat (first|assumption|exact Fr.refl _ _|refine Fr.alloc ?_ _|refine Fr.drew ?_|refine Fr.drewN ?_ _)))).mono ?_;rintro e w' ⟨rfl,rfl⟩)
   |(go_at_call 15;refine (HV.out _ (F7.out.transNo (by repeat (first|assumption|exact Fr.refl _ _|refine Fr.alloc ?_ _|refine Fr.drew ?_|refine Fr.drewN ?_ _)))).mono ?_;rintro e w' ⟨rfl,rfl⟩)
   |(go_at_call 17;refine (HL.out _ (F7.out.transNo (by repeat (first|assumption|exact Fr.refl _ _|refine Fr.alloc ?_ _|refine Fr.drew ?_|refine Fr.drewN ?_ _)))).mono ?_;rintro e w' ⟨rfl,rfl⟩)
   |(go_at_call 19;refine (HLG.out _ (F7.out.transNo (by repeat (first|assumption|exact Fr.refl _ _|refine Fr.alloc ?_ _|refine Fr.drew ?_|refine Fr.drewN ?_ _)))).mono ?_;rintro e w5 ⟨A5,c5,rfl,o5,f5⟩;have Q5:Fr No W7 w5:=Fr.transNo (by repeat (first|assumption|exact Fr.refl _ _|refine Fr.alloc ?_ _|refine Fr.drew ?_|refine Fr.drewN ?_ _)) f5;have O5:=Lib.hid o5;clear f5 o5)
   |(go_at_call 18;refine (HSL.out _ _ _ _ (F7.out.transNo (by repeat (first|assumption|exact Fr.refl _ _|refine Fr.alloc ?_ _|refine Fr.drew ?_|refine Fr.drewN ?_ _))) (O5.out.frNo (by repeat (first|assumption|exact Fr.refl _ _|refine Fr.alloc ?_ _|refine Fr.drew ?_|refine Fr.drewN ?_ _)))).mono ?_;rintro e w8 ⟨rfl,f8⟩;have Q8:Fr No W7 w8:=Fr.transNo (by repeat (first|assumption|exact Fr.refl _ _|refine Fr.alloc ?_ _|refine Fr.drew ?_|refine Fr.drewN ?_ _)) f8;clear f8))
  have F8:=Lib.hid (F7.out.transNo Q8)
  clear Q8
  go_wp2_with fail
  go_ret
  exact ⟨rfl,F8.out⟩
end Go.Proofs.Ytjnfmfmglehmbaa
