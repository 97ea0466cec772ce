/-
  The contracts of package entry's shapes.
-/
import Derived.Test.YtodkhcbjpodgeaaGreatG07
import Derived.Deep.RegionHeld3
import Derived.Deep.DeepCutAuto
import Derived.Deep.CutBlock
import Derived.Deep.DrawnRows
import Derived.IntWalk
namespace Go.Proofs.YtodkhcbjpodgeaaGreat
open Go.ChangeShapes Go.WideShapes Go.ChangeAt Go.RowKit
set_option linter.unusedVariables false
set_option maxRecDepth 100000
set_option maxHeartbeats 4000000
attribute [local go_sem ↓] Go.wp_at_zero Go.wp_at_succ
abbrev iR:TypeId:=369
abbrev iq:TypeId:=371
abbrev an1:TypeId:=340
theorem nH (n:Int)(w:World)(h1: -4611686018427387904≤n)(h2:n≤4611686018427387904):
  Calls Tryz.prog 305 #[.int .i64 n] w fun e w' =>e= .returned (.agg #[.int .i64 0,.int .i64 (n-1)])∧w.alloc (.cells #[.int .i64 0,.int .i64 (n-1)] iR)=w' :=by
 go_in
 go_wp2
 exact bodyPost_ret (v:= .agg #[.int .i64 0,.int .i64 (n-1)]) (by simp [results,Tryz.results305,go_sem]) rfl ⟨rfl,rfl⟩
theorem Blk.new' (w:World)(g:Nat)(t:TypeId)(cs:Array Value)(h:g=w.heap.size):Blk (w.alloc (.cells cs t)) g t cs:=by subst h;exact Blk.new w t cs
theorem Blk.dJ {w:World}{g:Nat}{t:TypeId}{cs:Array Value}(h:Blk w g t cs)(o:Obj):Blk (w.alloc o) g t cs:=h.fr (aj w o) id
theorem Blk.dM {w:World}{g:Nat}{t:TypeId}{cs:Array Value}(h:Blk w g t cs):Blk w.drew g t cs:=h
theorem Blk.conv {w:World}{g:Nat}{t:TypeId}{cs cs' :Array Value}(h:Blk w g t cs)(e:cs=cs'):Blk w g t cs' :=e▸h
theorem Blk.ne_ {w:World}{g g' :Nat}{t t' :TypeId}{cs cs' :Array Value}(h:Blk w g t cs)(h' :Blk w g' t' cs')(hne:t≠t'):g≠g' :=by
 rintro rfl;unfold Blk at h h';rw [h] at h';injection h' with h';injection h' with _ ht;exact hne ht
theorem Blk.aG {w:World}{g:Nat}{t:TypeId}{cs:Array Value}(h:Blk w g t cs){p:Addr}(hp:g≠p.block)(u:Value):Blk (w.setCell p u) g t cs:=h.fr (gU w p u) hp
theorem aK {Y:World}{g g14:Nat}{a b:Value}{cs:Array Value}(h:Blk Y g iR #[a,b])(h14:Blk Y g14 iq cs):Y.cell? ⟨g,0,none⟩=some a∧Y.cell? ⟨g,1,none⟩=some b∧g≠g14∧g14≠g:=
 ⟨h.cell 0,h.cell 1,h.ne_ h14 dcd,fun e=>h.ne_ h14 dcd e.symm⟩
theorem Fr.setAt {w a:World}{g:Nat}(h:Fr (fun i=>i=g) a w)(o:Nat)(u:Value):Fr (fun i=>i=g) a (w.setCell ⟨g,o,none⟩ u):=h.setCell (p:=⟨g,o,none⟩) (.inl rfl) u
def asf (nt nc:Int)(W:World)(x y z:Value)(wx:World):Prop:=
 ∃g7 g8 g9:Nat,x= .pointer (some ⟨g7,0,none⟩)∧y= .pointer (some ⟨g8,0,none⟩)∧z= .pointer (some ⟨g9,0,none⟩)∧Blk wx g7 iR #[.int .i64 0,.int .i64 (nt-1)]∧Blk wx g8 iR #[.int .i64 0,.int .i64 (nc-1)]∧Blk wx g9 iR #[.int .i64 (-1),.int .i64 (nc-1)]∧Fr No W wx
def Fm.vals (f:Fm):Array Value:= #[.int .i64 f.bF.lo,.int .i64 f.bF.hi,.int .i64 f.cell.lo,.int .i64 f.cell.hi,.int .i64 f.other.lo,.int .i64 f.other.hi,.int .i64 f.epoch.lo,.int .i64 f.epoch.hi,.int .i64 f.ticks.lo,.int .i64 f.ticks.hi,.int .i64 f.n.lo,.int .i64 f.n.hi]
abbrev oM:Fm:=⟨aZ,aZ,aZ,aZ,aZ,aZ⟩
abbrev ab9:Fm:=⟨dw,dw,dw,aZ,aZ,aZ⟩
structure aof (nt nc nr nv:Int) (w:World) (q3 q4 g7 g8 g9 g10 g11 g12 g13 g14:Nat) (wx:World):Prop where
 b3:Blk wx q3 an1 #[.int .i64 nt,.int .i64 nc,.int .i64 nr,.int .i64 nv]
 b4:Blk wx q4 iq oM.vals
 b7:Blk wx g7 iR #[.int .i64 0,.int .i64 (nt-1)]
 b8:Blk wx g8 iR #[.int .i64 0,.int .i64 (nc-1)]
 b9:Blk wx g9 iR #[.int .i64 (-1),.int .i64 (nc-1)]
 b10:Blk wx g10 iR #[.int .i64 0,.int .i64 (nv-1)]
 b11:Blk wx g11 iR #[.int .i64 0,.int .i64 1]
 b12:Blk wx g12 iR #[.int .i64 1,.int .i64 1048576]
 b13:Blk wx g13 iR #[.int .i64 0,.int .i64 1073741824]
 b14:Blk wx g14 iq ab9.vals
 ne:g14≠q4
 new:w.heap.size≤g14
 av3:w.heap.size≤q4
 fr:Fr No w wx
def aoe (nv:Int)(V:World)(s12 s13:Value)(wx:World):Prop:=
 ∃g12 g13:Nat,s12= .pointer (some ⟨g12,0,none⟩)∧s13= .pointer (some ⟨g13,0,none⟩)∧Blk wx (V.heap.size+1) iR #[.int .i64 0,.int .i64 (nv-1)]∧Blk wx (V.heap.size+1+1) iR #[.int .i64 0,.int .i64 1]∧Blk wx g12 iR #[.int .i64 1,.int .i64 1048576]∧Blk wx g13 iR #[.int .i64 0,.int .i64 1073741824]∧Fr No V wx
def akh (k nt nc nr nv:Int)(w:World)(g14 q4:Nat)(wx:World):Prop:=inB 1 16 k=true∧Blk wx g14 iq (kR k nt nc nr nv).vals∧Blk wx q4 iq oM.vals∧Fr No w wx
def xK (k nt nc nr nv:Int)(w:World)(e:Ending)(w' :World):Prop:=e= .returned (.tuple #[.agg (if inB 1 16 k then kR k nt nc nr nv else oM).vals,.bool (inB 1 16 k)])∧Fr No w w'
theorem lD (f:Fm)(q4:Nat)(b:Bool)(ts:Array Value)(W:World)(hb:Blk W q4 iq f.vals)(h4:ts[4]?.getD undef= .pointer (some ⟨q4,0,none⟩))(h5:ts[5]?.getD undef= .bool b):
  (results Tryz.f274 ts).run Tryz.prog W= .ok (.tuple #[.agg f.vals,.bool b]) W:=by
 have e0:W.cell? ⟨q4,0,none⟩=_:=hb.cell 0;have e1:W.cell? ⟨q4,1,none⟩=_:=hb.cell 1;have e2:W.cell? ⟨q4,2,none⟩=_:=hb.cell 2;have e3:W.cell? ⟨q4,3,none⟩=_:=hb.cell 3;have e4:W.cell? ⟨q4,4,none⟩=_:=hb.cell 4;have e5:W.cell? ⟨q4,5,none⟩=_:=hb.cell 5;have e6:W.cell? ⟨q4,6,none⟩=_:=hb.cell 6;have e7:W.cell? ⟨q4,7,none⟩=_:=hb.cell 7;have e8:W.cell? ⟨q4,8,none⟩=_:=hb.cell 8;have e9:W.cell? ⟨q4,9,none⟩=_:=hb.cell 9;have e10:W.cell? ⟨q4,10,none⟩=_:=hb.cell 10;have e11:W.cell? ⟨q4,11,none⟩=_:=hb.cell 11;simp only [Fm.vals,List.getElem?_toArray,List.getElem?_cons_zero,List.getElem?_cons_succ] at e0 e1 e2 e3 e4 e5 e6 e7 e8 e9 e10 e11;clear hb
 simp [results,Tryz.results274,go_sem,h4,h5,Fm.vals,e0,e1,e2,e3,e4,e5,e6,e7,e8,e9,e10,e11]
theorem ab6 {Z:World}{q:Nat}(f:Fm)(h:Blk Z q iq oM.vals):Blk (World.setCell (World.setCell (World.setCell (World.setCell (World.setCell (World.setCell (World.setCell (World.setCell (World.setCell (World.setCell (World.setCell (World.setCell Z ⟨q,0,none⟩ (.int .i64 f.bF.lo)) ⟨q,1,none⟩ (.int .i64 f.bF.hi)) ⟨q,2,none⟩ (.int .i64 f.cell.lo)) ⟨q,3,none⟩ (.int .i64 f.cell.hi)) ⟨q,4,none⟩ (.int .i64 f.other.lo)) ⟨q,5,none⟩ (.int .i64 f.other.hi)) ⟨q,6,none⟩ (.int .i64 f.epoch.lo)) ⟨q,7,none⟩ (.int .i64 f.epoch.hi)) ⟨q,8,none⟩ (.int .i64 f.ticks.lo)) ⟨q,9,none⟩ (.int .i64 f.ticks.hi)) ⟨q,10,none⟩ (.int .i64 f.n.lo)) ⟨q,11,none⟩ (.int .i64 f.n.hi)) q iq f.vals:=by
 refine Blk.conv (Blk.aC (Blk.aC (Blk.aC (Blk.aC (Blk.aC (Blk.aC (Blk.aC (Blk.aC (Blk.aC (Blk.aC (Blk.aC (Blk.aC h 0 (.int .i64 f.bF.lo)) 1 (.int .i64 f.bF.hi)) 2 (.int .i64 f.cell.lo)) 3 (.int .i64 f.cell.hi)) 4 (.int .i64 f.other.lo)) 5 (.int .i64 f.other.hi)) 6 (.int .i64 f.epoch.lo)) 7 (.int .i64 f.epoch.hi)) 8 (.int .i64 f.ticks.lo)) 9 (.int .i64 f.ticks.hi)) 10 (.int .i64 f.n.lo)) 11 (.int .i64 f.n.hi)) ?_;simp only [Fm.vals,List.setIfInBounds_toArray,List.set_cons_zero,List.set_cons_succ]
theorem sM {w Z:World}{q:Nat}(f:Fm)(h:Fr No w Z)(hq:w.heap.size≤q):Fr No w (World.setCell (World.setCell (World.setCell (World.setCell (World.setCell (World.setCell (World.setCell (World.setCell (World.setCell (World.setCell (World.setCell (World.setCell Z ⟨q,0,none⟩ (.int .i64 f.bF.lo)) ⟨q,1,none⟩ (.int .i64 f.bF.hi)) ⟨q,2,none⟩ (.int .i64 f.cell.lo)) ⟨q,3,none⟩ (.int .i64 f.cell.hi)) ⟨q,4,none⟩ (.int .i64 f.other.lo)) ⟨q,5,none⟩ (.int .i64 f.other.hi)) ⟨q,6,none⟩ (.int .i64 f.epoch.lo)) ⟨q,7,none⟩ (.int .i64 f.epoch.hi)) ⟨q,8,none⟩ (.int .i64 f.ticks.lo)) ⟨q,9,none⟩ (.int .i64 f.ticks.hi)) ⟨q,10,none⟩ (.int .i64 f.n.lo)) ⟨q,11,none⟩ (.int .i64 f.n.hi)):=by
 exact (Fr.setCell (Fr.setCell (Fr.setCell (Fr.setCell (Fr.setCell (Fr.setCell (Fr.setCell (Fr.setCell (Fr.setCell (Fr.setCell (Fr.setCell (Fr.setCell h (p:=⟨q,0,none⟩) (.inr hq) (.int .i64 f.bF.lo)) (p:=⟨q,1,none⟩) (.inr hq) (.int .i64 f.bF.hi)) (p:=⟨q,2,none⟩) (.inr hq) (.int .i64 f.cell.lo)) (p:=⟨q,3,none⟩) (.inr hq) (.int .i64 f.cell.hi)) (p:=⟨q,4,none⟩) (.inr hq) (.int .i64 f.other.lo)) (p:=⟨q,5,none⟩) (.inr hq) (.int .i64 f.other.hi)) (p:=⟨q,6,none⟩) (.inr hq) (.int .i64 f.epoch.lo)) (p:=⟨q,7,none⟩) (.inr hq) (.int .i64 f.epoch.hi)) (p:=⟨q,8,none⟩) (.inr hq) (.int .i64 f.ticks.lo)) (p:=⟨q,9,none⟩) (.inr hq) (.int .i64 f.ticks.hi)) (p:=⟨q,10,none⟩) (.inr hq) (.int .i64 f.n.lo)) (p:=⟨q,11,none⟩) (.inr hq) (.int .i64 f.n.hi))
theorem afu {Z:World}{q:Nat}{nt nc nv:Int}(nr:Int)(h:Blk Z q iq ab9.vals):Blk ((World.setCell (World.setCell (World.setCell (World.setCell (World.setCell (World.setCell (World.setCell (World.setCell (World.setCell (World.setCell Z ⟨q,0,none⟩ (.int .i64 0)) ⟨q,1,none⟩ (.int .i64 (nt-1))) ⟨q,2,none⟩ (.int .i64 0)) ⟨q,3,none⟩ (.int .i64 (nc-1))) ⟨q,6,none⟩ (.int .i64 1)) ⟨q,7,none⟩ (.int .i64 1048576)) ⟨q,8,none⟩ (.int .i64 0)) ⟨q,9,none⟩ (.int .i64 1073741824)) ⟨q,10,none⟩ (.int .i64 0)) ⟨q,11,none⟩ (.int .i64 (nv-1)))).drew q iq (kR 2 nt nc nr nv).vals:=by
 refine Blk.dM (Blk.conv (Blk.aC (Blk.aC (Blk.aC (Blk.aC (Blk.aC (Blk.aC (Blk.aC (Blk.aC (Blk.aC (Blk.aC h 0 (.int .i64 0)) 1 (.int .i64 (nt-1))) 2 (.int .i64 0)) 3 (.int .i64 (nc-1))) 6 (.int .i64 1)) 7 (.int .i64 1048576)) 8 (.int .i64 0)) 9 (.int .i64 1073741824)) 10 (.int .i64 0)) 11 (.int .i64 (nv-1))) ?_);simp only [Fm.vals,kR,List.setIfInBounds_toArray,List.set_cons_zero,List.set_cons_succ]
 rfl
set_option maxHeartbeats 16000000 in
theorem yY (k nt nc nr nv:Int)(w:World)(h1: -4611686018427387904≤nt)(h2:nt≤4611686018427387904)(h3: -4611686018427387904≤nc)(h4:nc≤4611686018427387904)(h5: -4611686018427387904≤nr)(h6:nr≤4611686018427387904)(h7: -4611686018427387904≤nv)(h8:nv≤4611686018427387904):
  Calls Tryz.prog 274 #[.int .i64 k,.agg #[.int .i64 nt,.int .i64 nc,.int .i64 nr,.int .i64 nv]] w fun e w' =>xK k nt nc nr nv w e w' :=by
 go_in
 go_upto_region 2 with fail
 obtain ⟨W,hW⟩:∃W:World,W=((w.alloc (.cells #[.int .i64 nt,.int .i64 nc,.int .i64 nr,.int .i64 nv] an1)).alloc (.cells #[.int .i64 0,.int .i64 0,.int .i64 0,.int .i64 0,.int .i64 0,.int .i64 0,.int .i64 0,.int .i64 0,.int .i64 0,.int .i64 0,.int .i64 0,.int .i64 0] iq)).alloc (.cells #[.int .i64 (-1),.int .i64 (-1)] iR):=⟨_,rfl⟩;have hfw:Fr No w W:=by rw [hW];exact (((Fr.refl No w).alloc _).alloc _).alloc _
 have hb3:Blk W w.heap.size an1 #[.int .i64 nt,.int .i64 nc,.int .i64 nr,.int .i64 nv]:=by rw [hW];exact (((Blk.new _ _ _).dJ _).dJ _)
 have hb4:Blk W (w.heap.size+1) iq oM.vals:=by rw [hW];exact (Blk.new' _ _ _ _ (by simp)).dJ _
 have hb6:Blk W (w.heap.size+1+1) iR #[.int .i64 (-1),.int .i64 (-1)]:=by rw [hW];exact Blk.new' _ _ _ _ (by simp)
 rw [←hW];obtain ⟨q6,hq6⟩:∃q,q=w.heap.size+1+1:=⟨_,rfl⟩;obtain ⟨q4,hq4⟩:∃q,q=w.heap.size+1:=⟨_,rfl⟩;obtain ⟨q3,hq3⟩:∃q,q=w.heap.size:=⟨_,rfl⟩;rw [←hq6,←hq4,←hq3];rw [←hq6] at hb6;rw [←hq4] at hb4;rw [←hq3] at hb3;have hz:w.heap.size+3=W.heap.size:=by rw [hW];simp
 have l3' :=hb3.lt;have l6' :=hb6.lt;have l4' :=hb4.lt;have x0:=hb3.cell 0;have x1:=hb3.cell 1;simp only [List.getElem?_toArray,List.getElem?_cons_zero,List.getElem?_cons_succ] at x0 x1;have hka:∀V:World,Fr No W V→V.cell? ⟨q3,0,none⟩=some (.int .i64 nt)∧V.cell? ⟨q3,1,none⟩=some (.int .i64 nc)∧Fr No W V:=fun V hV=>⟨(hb3.fr hV id).cell 0,(hb3.fr hV id).cell 1,hV⟩;have hwr:IntKind.i64.wrap (nc-1)=nc-1:=IntWalk.i64_in _ oy;have awe:q4≠q3:=by omega
 obtain ⟨HW,HFW,HB3,HB4,HB6,HZ,HKA,HQ6,HQ4,HQ3⟩:=yU hW hfw hb3 hb4 hb6 hz hka hq6 hq4 hq3;clear hW hfw hb3 hb4 hb6 hz hka hq6 hq4 hq3
 go_cut [7,8,9] (fun x y z wx=>asf nt nc W x y z wx)
 case first=>
  go_region_held3 (fun V=>V.cell? ⟨q3,0,none⟩=some (.int .i64 nt)∧V.cell? ⟨q3,1,none⟩=some (.int .i64 nc)∧Fr No W V) (exact HKA.out _ (by repeat (first|assumption|exact Fr.refl _ _|refine Fr.alloc ?_ _|refine Fr.drew ?_|refine Fr.setCell ?_ (.inr (by simp;omega)) _))) (first
   |(go_at_call 305;refine (nH _ _ oy oy).mono ?_;rintro e w5 ⟨rfl,rfl⟩))
  all_goals
   go_wp2_with fail
   go_meet
   exact ⟨_,_,_,rfl,rfl,rfl,(by repeat (first|(refine Blk.new' _ _ _ _ ?_;simp;done)|refine Blk.dM ?_|refine Blk.dJ ?_ _)),(by repeat (first|(refine Blk.new' _ _ _ _ ?_;simp;done)|refine Blk.dM ?_|refine Blk.dJ ?_ _)),(by repeat (first|(refine Blk.new' _ _ _ _ ?_;simp;done)|refine Blk.dM ?_|refine Blk.dJ ?_ _)),frz⟩
 case rest=>
  obtain ⟨g7,g8,g9,rfl,rfl,rfl,b7,b8,b9,f9⟩:=hcut;obtain ⟨V,rfl⟩:∃V:World,V=wc:=⟨_,rfl⟩;have c3:=HB3.out.fr f9 id;have c4:=HB4.out.fr f9 id;have c6:=HB6.out.fr f9 id;have y3:=c3.cell 3;have z0:=c6.cell 0;have z1:=c6.cell 1;simp only [List.getElem?_toArray,List.getElem?_cons_zero,List.getElem?_cons_succ] at y3 z0 z1;have l3:=c3.lt;have l6:=c6.lt;have hvs:W.heap.size≤V.heap.size:=f9.size;have f10:Fr No w V:=HFW.out.ah f9;clear x0 x1 hwr;obtain ⟨C3,C4,C6,B7,B8,B9,F10⟩:=jo c3 c4 c6 b7 b8 b9 f10;clear c3 c4 c6 b7 b8 b9 f10;clear f9 HKA HB3 HB4 HB6 HFW HW;have l7:=B7.out.lt;have l8:=B8.out.lt;have l9:=B9.out.lt;have l4:=C4.out.lt
  go_upto_region 4 with (go_at_call 305;refine (nH _ _ oy oy).mono ?_;rintro e w5 ⟨rfl,rfl⟩)
  go_cut [12,13] (fun s12 s13 wx=>aoe nv V s12 s13 wx)
  case first=>
   go_wp2_with fail
   go_meet
   exact ⟨_,_,rfl,rfl,(by repeat (first|(refine Blk.new' _ _ _ _ ?_;simp;done)|refine Blk.dM ?_|refine Blk.dJ ?_ _)),(by repeat (first|(refine Blk.new' _ _ _ _ ?_;simp;done)|refine Blk.dM ?_|refine Blk.dJ ?_ _)),(by repeat (first|(refine Blk.new' _ _ _ _ ?_;simp;done)|refine Blk.dM ?_|refine Blk.dJ ?_ _)),(by repeat (first|(refine Blk.new' _ _ _ _ ?_;simp;done)|refine Blk.dM ?_|refine Blk.dJ ?_ _)),frz⟩
  case rest=>
   obtain ⟨g12,g13,rfl,rfl,b10,b11,b12,b13,f13⟩:=hcut;obtain ⟨U,rfl⟩:∃U:World,U=wc:=⟨_,rfl⟩;have c6' :=C6.out.fr f13 id;have z0' :=c6'.cell 0;have z1' :=c6'.cell 1;simp only [List.getElem?_toArray,List.getElem?_cons_zero,List.getElem?_cons_succ] at z0' z1';clear y3 z0 z1;obtain ⟨g10,aov⟩:∃q,q=V.heap.size+1:=⟨_,rfl⟩;obtain ⟨g11,ahg⟩:∃q,q=V.heap.size+1+1:=⟨_,rfl⟩;rw [←aov] at b10;rw [←ahg] at b11;rw [←ahg,←aov];have u10:=b10.lt;have u4:=(C4.out.fr f13 id).lt;have hne:U.heap.size≠q4:=by omega
   have hnw:w.heap.size≤U.heap.size:=(F10.out.ah f13).size;have hf0:∀o:Obj,aof nt nc nr nv w q3 q4 g7 g8 g9 g10 g11 g12 g13 U.heap.size (U.alloc (.cells ab9.vals iq)):=fun _=>⟨(C3.out.fr f13 id).dJ _,(C4.out.fr f13 id).dJ _,(B7.out.fr f13 id).dJ _,(B8.out.fr f13 id).dJ _,(B9.out.fr f13 id).dJ _,b10.dJ _,b11.dJ _,b12.dJ _,b13.dJ _,Blk.new _ _ _,hne,hnw,by rw [HQ4.out];omega,(F10.out.ah f13).alloc _⟩;obtain ⟨B10,B11,B12,B13,F13,axu,axt,HF0⟩:=aou b10 b11 b12 b13 f13 aov ahg hf0;clear b10 b11 b12 b13 f13 aov ahg hf0;clear c6'
   go_upto_block 0 with fail
   obtain ⟨Y,hY⟩:∃Y:World,Y=U.alloc (.cells #[.int .i64 (-1),.int .i64 (-1),.int .i64 (-1),.int .i64 (-1),.int .i64 (-1),.int .i64 (-1),.int .i64 0,.int .i64 0,.int .i64 0,.int .i64 0,.int .i64 0,.int .i64 0] iq):=⟨_,rfl⟩;have f0:aof nt nc nr nv w q3 q4 g7 g8 g9 g10 g11 g12 g13 U.heap.size Y:=by rw [hY];exact HF0.out default
   rw [←hY];obtain ⟨g14,atr⟩:∃g,g=U.heap.size:=⟨_,rfl⟩;rw [←atr] at f0 ⊢;have hn4:=f0.ne;have fB:=f0.new;have kN :=f0.av3;have F0:=O f0;clear f0;clear hY atr HF0 B10 B11 B12 B13 F13 axu axt C3 C4 C6 B7 B8 B9 F10 z0' z1' l3 l6 l7 l8 l9 l4 hvs u10 u4 hne hnw HQ6 HQ4 HQ3 HZ l3' l6' l4' awe
   go_cut [] (fun wx=>akh k nt nc nr nv w g14 q4 wx)
   case first=>
    have hcase:k=1∨k=2∨k=3∨k=4∨k=5∨k=6∨k=7∨k=8∨k=9∨k=10∨k=11∨k=12∨k=13∨k=14∨k=15∨k=16∨(k<1∨16<k):=by omega
    rcases hcase with rfl|rfl|rfl|rfl|rfl|rfl|rfl|rfl|rfl|rfl|rfl|rfl|rfl|rfl|rfl|rfl|hk
    ·obtain ⟨c70,c71,n7,m7⟩:=aK F0.out.b7 F0.out.b14
     obtain ⟨c80,c81,n8,m8⟩:=aK F0.out.b8 F0.out.b14;obtain ⟨c90,c91,n9,m9⟩:=aK F0.out.b9 F0.out.b14;have e0:Y.cell? ⟨g14,0,none⟩=_:=F0.out.b14.cell 0;have i0:=F0.out.b14.frozen 0;have e1:Y.cell? ⟨g14,1,none⟩=_:=F0.out.b14.cell 1;have i1:=F0.out.b14.frozen 1;have e2:Y.cell? ⟨g14,2,none⟩=_:=F0.out.b14.cell 2;have i2:=F0.out.b14.frozen 2;have e3:Y.cell? ⟨g14,3,none⟩=_:=F0.out.b14.cell 3;have i3:=F0.out.b14.frozen 3;have e4:Y.cell? ⟨g14,4,none⟩=_:=F0.out.b14.cell 4;have i4:=F0.out.b14.frozen 4;have e5:Y.cell? ⟨g14,5,none⟩=_:=F0.out.b14.cell 5;have i5:=F0.out.b14.frozen 5;simp only [Fm.vals,List.getElem?_toArray,List.getElem?_cons_zero,List.getElem?_cons_succ] at e0 e1 e2 e3 e4 e5
     go_wp2_with fail
     go_region
     go_wp2_with fail
     go_meet
     exact ⟨rfl,Blk.conv (((((((F0.out.b14.aC 0 _).aC 1 _).aC 2 _).aC 3 _).aC 4 _).aC 5 _).dM) rfl,((((((F0.out.b4.aG (p:=⟨g14,0,none⟩) (fun e=>hn4 e.symm) _).aG (p:=⟨g14,1,none⟩) (fun e=>hn4 e.symm) _).aG (p:=⟨g14,2,none⟩) (fun e=>hn4 e.symm) _).aG (p:=⟨g14,3,none⟩) (fun e=>hn4 e.symm) _).aG (p:=⟨g14,4,none⟩) (fun e=>hn4 e.symm) _).aG (p:=⟨g14,5,none⟩) (fun e=>hn4 e.symm) _).dM,((((((F0.out.fr.setCell (p:=⟨g14,0,none⟩) (.inr fB) _).setCell (p:=⟨g14,1,none⟩) (.inr fB) _).setCell (p:=⟨g14,2,none⟩) (.inr fB) _).setCell (p:=⟨g14,3,none⟩) (.inr fB) _).setCell (p:=⟨g14,4,none⟩) (.inr fB) _).setCell (p:=⟨g14,5,none⟩) (.inr fB) _).drew⟩
    ·obtain ⟨c70,c71,n7,m7⟩:=aK F0.out.b7 F0.out.b14
     obtain ⟨c80,c81,n8,m8⟩:=aK F0.out.b8 F0.out.b14;obtain ⟨aw7,aw6,n12,m12⟩:=aK F0.out.b12 F0.out.b14;obtain ⟨c130,c131,n13,m13⟩:=aK F0.out.b13 F0.out.b14;obtain ⟨ard,arb,n10,m10⟩:=aK F0.out.b10 F0.out.b14;have e0:Y.cell? ⟨g14,0,none⟩=_:=F0.out.b14.cell 0;have i0:=F0.out.b14.frozen 0;have e1:Y.cell? ⟨g14,1,none⟩=_:=F0.out.b14.cell 1;have i1:=F0.out.b14.frozen 1;have e2:Y.cell? ⟨g14,2,none⟩=_:=F0.out.b14.cell 2;have i2:=F0.out.b14.frozen 2;have e3:Y.cell? ⟨g14,3,none⟩=_:=F0.out.b14.cell 3;have i3:=F0.out.b14.frozen 3;have e6:Y.cell? ⟨g14,6,none⟩=_:=F0.out.b14.cell 6;have i6:=F0.out.b14.frozen 6;have e7:Y.cell? ⟨g14,7,none⟩=_:=F0.out.b14.cell 7;have i7:=F0.out.b14.frozen 7;have e8:Y.cell? ⟨g14,8,none⟩=_:=F0.out.b14.cell 8;have i8:=F0.out.b14.frozen 8;have e9:Y.cell? ⟨g14,9,none⟩=_:=F0.out.b14.cell 9;have i9:=F0.out.b14.frozen 9;have e10:Y.cell? ⟨g14,10,none⟩=_:=F0.out.b14.cell 10;have i10:=F0.out.b14.frozen 10;have e11:Y.cell? ⟨g14,11,none⟩=_:=F0.out.b14.cell 11;have i11:=F0.out.b14.frozen 11;simp only [Fm.vals,List.getElem?_toArray,List.getElem?_cons_zero,List.getElem?_cons_succ] at e0 e1 e2 e3 e6 e7 e8 e9 e10 e11;have hS:∀V:World,Fr (fun i=>i=g14) Y V→V.cell? ⟨g7,0,none⟩=some (.int .i64 0)∧V.cell? ⟨g7,1,none⟩=some (.int .i64 (nt-1))∧V.cell? ⟨g8,0,none⟩=some (.int .i64 0)∧V.cell? ⟨g8,1,none⟩=some (.int .i64 (nc-1))∧V.cell? ⟨g12,0,none⟩=some (.int .i64 1)∧V.cell? ⟨g12,1,none⟩=some (.int .i64 1048576)∧V.cell? ⟨g13,0,none⟩=some (.int .i64 0)∧V.cell? ⟨g13,1,none⟩=some (.int .i64 1073741824)∧V.cell? ⟨g10,0,none⟩=some (.int .i64 0)∧V.cell? ⟨g10,1,none⟩=some (.int .i64 (nv-1))∧Fr (fun i=>i=g14) Y V:=fun V hV=>⟨(F0.out.b7.fr hV (F0.out.b7.ne_ F0.out.b14 dcd)).cell 0,(F0.out.b7.fr hV (F0.out.b7.ne_ F0.out.b14 dcd)).cell 1,(F0.out.b8.fr hV (F0.out.b8.ne_ F0.out.b14 dcd)).cell 0,(F0.out.b8.fr hV (F0.out.b8.ne_ F0.out.b14 dcd)).cell 1,(F0.out.b12.fr hV (F0.out.b12.ne_ F0.out.b14 dcd)).cell 0,(F0.out.b12.fr hV (F0.out.b12.ne_ F0.out.b14 dcd)).cell 1,(F0.out.b13.fr hV (F0.out.b13.ne_ F0.out.b14 dcd)).cell 0,(F0.out.b13.fr hV (F0.out.b13.ne_ F0.out.b14 dcd)).cell 1,(F0.out.b10.fr hV (F0.out.b10.ne_ F0.out.b14 dcd)).cell 0,(F0.out.b10.fr hV (F0.out.b10.ne_ F0.out.b14 dcd)).cell 1,hV⟩
     have HS:=O hS;clear hS
     go_wp2_with fail
     go_region_held3 (fun V=>V.cell? ⟨g7,0,none⟩=some (.int .i64 0)∧V.cell? ⟨g7,1,none⟩=some (.int .i64 (nt-1))∧V.cell? ⟨g8,0,none⟩=some (.int .i64 0)∧V.cell? ⟨g8,1,none⟩=some (.int .i64 (nc-1))∧V.cell? ⟨g12,0,none⟩=some (.int .i64 1)∧V.cell? ⟨g12,1,none⟩=some (.int .i64 1048576)∧V.cell? ⟨g13,0,none⟩=some (.int .i64 0)∧V.cell? ⟨g13,1,none⟩=some (.int .i64 1073741824)∧V.cell? ⟨g10,0,none⟩=some (.int .i64 0)∧V.cell? ⟨g10,1,none⟩=some (.int .i64 (nv-1))∧Fr (fun i=>i=g14) Y V) (with_reducible refine HS.out _ ?_;repeat (first|with_reducible exact Fr.refl _ _|refine Fr.drew ?_|refine Fr.setAt ?_ _ _|refine Fr.alloc ?_ _)) (fail)
     go_wp2_with fail
     go_meet
     exact ⟨rfl,afu nr F0.out.b14,((((((((((F0.out.b4.aG (p:=⟨g14,0,none⟩) (fun e=>hn4 e.symm) _).aG (p:=⟨g14,1,none⟩) (fun e=>hn4 e.symm) _).aG (p:=⟨g14,2,none⟩) (fun e=>hn4 e.symm) _).aG (p:=⟨g14,3,none⟩) (fun e=>hn4 e.symm) _).aG (p:=⟨g14,6,none⟩) (fun e=>hn4 e.symm) _).aG (p:=⟨g14,7,none⟩) (fun e=>hn4 e.symm) _).aG (p:=⟨g14,8,none⟩) (fun e=>hn4 e.symm) _).aG (p:=⟨g14,9,none⟩) (fun e=>hn4 e.symm) _).aG (p:=⟨g14,10,none⟩) (fun e=>hn4 e.symm) _).aG (p:=⟨g14,11,none⟩) (fun e=>hn4 e.symm) _).dM,((((((((((F0.out.fr.setCell (p:=⟨g14,0,none⟩) (.inr fB) _).setCell (p:=⟨g14,1,none⟩) (.inr fB) _).setCell (p:=⟨g14,2,none⟩) (.inr fB) _).setCell (p:=⟨g14,3,none⟩) (.inr fB) _).setCell (p:=⟨g14,6,none⟩) (.inr fB) _).setCell (p:=⟨g14,7,none⟩) (.inr fB) _).setCell (p:=⟨g14,8,none⟩) (.inr fB) _).setCell (p:=⟨g14,9,none⟩) (.inr fB) _).setCell (p:=⟨g14,10,none⟩) (.inr fB) _).setCell (p:=⟨g14,11,none⟩) (.inr fB) _).drew⟩
    ·obtain ⟨c70,c71,n7,m7⟩:=aK F0.out.b7 F0.out.b14
     obtain ⟨aw7,aw6,n12,m12⟩:=aK F0.out.b12 F0.out.b14;have e0:Y.cell? ⟨g14,0,none⟩=_:=F0.out.b14.cell 0;have i0:=F0.out.b14.frozen 0;have e1:Y.cell? ⟨g14,1,none⟩=_:=F0.out.b14.cell 1;have i1:=F0.out.b14.frozen 1;have e6:Y.cell? ⟨g14,6,none⟩=_:=F0.out.b14.cell 6;have i6:=F0.out.b14.frozen 6;have e7:Y.cell? ⟨g14,7,none⟩=_:=F0.out.b14.cell 7;have i7:=F0.out.b14.frozen 7;simp only [Fm.vals,List.getElem?_toArray,List.getElem?_cons_zero,List.getElem?_cons_succ] at e0 e1 e6 e7
     go_wp2_with fail
     go_region
     go_wp2_with fail
     go_meet
     exact ⟨rfl,Blk.conv (((((F0.out.b14.aC 0 _).aC 1 _).aC 6 _).aC 7 _).dM) rfl,((((F0.out.b4.aG (p:=⟨g14,0,none⟩) (fun e=>hn4 e.symm) _).aG (p:=⟨g14,1,none⟩) (fun e=>hn4 e.symm) _).aG (p:=⟨g14,6,none⟩) (fun e=>hn4 e.symm) _).aG (p:=⟨g14,7,none⟩) (fun e=>hn4 e.symm) _).dM,((((F0.out.fr.setCell (p:=⟨g14,0,none⟩) (.inr fB) _).setCell (p:=⟨g14,1,none⟩) (.inr fB) _).setCell (p:=⟨g14,6,none⟩) (.inr fB) _).setCell (p:=⟨g14,7,none⟩) (.inr fB) _).drew⟩
    ·obtain ⟨c70,c71,n7,m7⟩:=aK F0.out.b7 F0.out.b14
     obtain ⟨c90,c91,n9,m9⟩:=aK F0.out.b9 F0.out.b14;have e0:Y.cell? ⟨g14,0,none⟩=_:=F0.out.b14.cell 0;have i0:=F0.out.b14.frozen 0;have e1:Y.cell? ⟨g14,1,none⟩=_:=F0.out.b14.cell 1;have i1:=F0.out.b14.frozen 1;have e2:Y.cell? ⟨g14,2,none⟩=_:=F0.out.b14.cell 2;have i2:=F0.out.b14.frozen 2;have e3:Y.cell? ⟨g14,3,none⟩=_:=F0.out.b14.cell 3;have i3:=F0.out.b14.frozen 3;simp only [Fm.vals,List.getElem?_toArray,List.getElem?_cons_zero,List.getElem?_cons_succ] at e0 e1 e2 e3
     go_wp2_with fail
     go_region
     go_wp2_with fail
     go_meet
     exact ⟨rfl,Blk.conv (((((F0.out.b14.aC 0 _).aC 1 _).aC 2 _).aC 3 _).dM) rfl,((((F0.out.b4.aG (p:=⟨g14,0,none⟩) (fun e=>hn4 e.symm) _).aG (p:=⟨g14,1,none⟩) (fun e=>hn4 e.symm) _).aG (p:=⟨g14,2,none⟩) (fun e=>hn4 e.symm) _).aG (p:=⟨g14,3,none⟩) (fun e=>hn4 e.symm) _).dM,((((F0.out.fr.setCell (p:=⟨g14,0,none⟩) (.inr fB) _).setCell (p:=⟨g14,1,none⟩) (.inr fB) _).setCell (p:=⟨g14,2,none⟩) (.inr fB) _).setCell (p:=⟨g14,3,none⟩) (.inr fB) _).drew⟩
    ·obtain ⟨c70,c71,n7,m7⟩:=aK F0.out.b7 F0.out.b14
     obtain ⟨c80,c81,n8,m8⟩:=aK F0.out.b8 F0.out.b14;have e0:Y.cell? ⟨g14,0,none⟩=_:=F0.out.b14.cell 0;have i0:=F0.out.b14.frozen 0;have e1:Y.cell? ⟨g14,1,none⟩=_:=F0.out.b14.cell 1;have i1:=F0.out.b14.frozen 1;have e2:Y.cell? ⟨g14,2,none⟩=_:=F0.out.b14.cell 2;have i2:=F0.out.b14.frozen 2;have e3:Y.cell? ⟨g14,3,none⟩=_:=F0.out.b14.cell 3;have i3:=F0.out.b14.frozen 3;simp only [Fm.vals,List.getElem?_toArray,List.getElem?_cons_zero,List.getElem?_cons_succ] at e0 e1 e2 e3
     go_wp2_with fail
     go_region
     go_wp2_with fail
     go_meet
     exact ⟨rfl,Blk.conv (((((F0.out.b14.aC 0 _).aC 1 _).aC 2 _).aC 3 _).dM) rfl,((((F0.out.b4.aG (p:=⟨g14,0,none⟩) (fun e=>hn4 e.symm) _).aG (p:=⟨g14,1,none⟩) (fun e=>hn4 e.symm) _).aG (p:=⟨g14,2,none⟩) (fun e=>hn4 e.symm) _).aG (p:=⟨g14,3,none⟩) (fun e=>hn4 e.symm) _).dM,((((F0.out.fr.setCell (p:=⟨g14,0,none⟩) (.inr fB) _).setCell (p:=⟨g14,1,none⟩) (.inr fB) _).setCell (p:=⟨g14,2,none⟩) (.inr fB) _).setCell (p:=⟨g14,3,none⟩) (.inr fB) _).drew⟩
    ·obtain ⟨c70,c71,n7,m7⟩:=aK F0.out.b7 F0.out.b14
     obtain ⟨c80,c81,n8,m8⟩:=aK F0.out.b8 F0.out.b14;have e0:Y.cell? ⟨g14,0,none⟩=_:=F0.out.b14.cell 0;have i0:=F0.out.b14.frozen 0;have e1:Y.cell? ⟨g14,1,none⟩=_:=F0.out.b14.cell 1;have i1:=F0.out.b14.frozen 1;have e2:Y.cell? ⟨g14,2,none⟩=_:=F0.out.b14.cell 2;have i2:=F0.out.b14.frozen 2;have e3:Y.cell? ⟨g14,3,none⟩=_:=F0.out.b14.cell 3;have i3:=F0.out.b14.frozen 3;simp only [Fm.vals,List.getElem?_toArray,List.getElem?_cons_zero,List.getElem?_cons_succ] at e0 e1 e2 e3
     go_wp2_with fail
     go_region
     go_wp2_with fail
     go_meet
     exact ⟨rfl,Blk.conv (((((F0.out.b14.aC 0 _).aC 1 _).aC 2 _).aC 3 _).dM) rfl,((((F0.out.b4.aG (p:=⟨g14,0,none⟩) (fun e=>hn4 e.symm) _).aG (p:=⟨g14,1,none⟩) (fun e=>hn4 e.symm) _).aG (p:=⟨g14,2,none⟩) (fun e=>hn4 e.symm) _).aG (p:=⟨g14,3,none⟩) (fun e=>hn4 e.symm) _).dM,((((F0.out.fr.setCell (p:=⟨g14,0,none⟩) (.inr fB) _).setCell (p:=⟨g14,1,none⟩) (.inr fB) _).setCell (p:=⟨g14,2,none⟩) (.inr fB) _).setCell (p:=⟨g14,3,none⟩) (.inr fB) _).drew⟩
    ·obtain ⟨c70,c71,n7,m7⟩:=aK F0.out.b7 F0.out.b14
     have e0:Y.cell? ⟨g14,0,none⟩=_:=F0.out.b14.cell 0;have i0:=F0.out.b14.frozen 0;have e1:Y.cell? ⟨g14,1,none⟩=_:=F0.out.b14.cell 1;have i1:=F0.out.b14.frozen 1;simp only [Fm.vals,List.getElem?_toArray,List.getElem?_cons_zero,List.getElem?_cons_succ] at e0 e1
     go_wp2_with fail
     go_wp2_with fail
     go_meet
     exact ⟨rfl,Blk.conv (((F0.out.b14.aC 0 _).aC 1 _)) rfl,((F0.out.b4.aG (p:=⟨g14,0,none⟩) (fun e=>hn4 e.symm) _).aG (p:=⟨g14,1,none⟩) (fun e=>hn4 e.symm) _),((F0.out.fr.setCell (p:=⟨g14,0,none⟩) (.inr fB) _).setCell (p:=⟨g14,1,none⟩) (.inr fB) _)⟩
    ·obtain ⟨c70,c71,n7,m7⟩:=aK F0.out.b7 F0.out.b14
     obtain ⟨aw9,aw8,n11,m11⟩:=aK F0.out.b11 F0.out.b14;have e0:Y.cell? ⟨g14,0,none⟩=_:=F0.out.b14.cell 0;have i0:=F0.out.b14.frozen 0;have e1:Y.cell? ⟨g14,1,none⟩=_:=F0.out.b14.cell 1;have i1:=F0.out.b14.frozen 1;have e10:Y.cell? ⟨g14,10,none⟩=_:=F0.out.b14.cell 10;have i10:=F0.out.b14.frozen 10;have e11:Y.cell? ⟨g14,11,none⟩=_:=F0.out.b14.cell 11;have i11:=F0.out.b14.frozen 11;simp only [Fm.vals,List.getElem?_toArray,List.getElem?_cons_zero,List.getElem?_cons_succ] at e0 e1 e10 e11
     go_wp2_with fail
     go_region
     go_wp2_with fail
     go_meet
     exact ⟨rfl,Blk.conv (((((F0.out.b14.aC 0 _).aC 1 _).aC 10 _).aC 11 _).dM) rfl,((((F0.out.b4.aG (p:=⟨g14,0,none⟩) (fun e=>hn4 e.symm) _).aG (p:=⟨g14,1,none⟩) (fun e=>hn4 e.symm) _).aG (p:=⟨g14,10,none⟩) (fun e=>hn4 e.symm) _).aG (p:=⟨g14,11,none⟩) (fun e=>hn4 e.symm) _).dM,((((F0.out.fr.setCell (p:=⟨g14,0,none⟩) (.inr fB) _).setCell (p:=⟨g14,1,none⟩) (.inr fB) _).setCell (p:=⟨g14,10,none⟩) (.inr fB) _).setCell (p:=⟨g14,11,none⟩) (.inr fB) _).drew⟩
    ·obtain ⟨c80,c81,n8,m8⟩:=aK F0.out.b8 F0.out.b14
     have e2:Y.cell? ⟨g14,2,none⟩=_:=F0.out.b14.cell 2;have i2:=F0.out.b14.frozen 2;have e3:Y.cell? ⟨g14,3,none⟩=_:=F0.out.b14.cell 3;have i3:=F0.out.b14.frozen 3;have e10:Y.cell? ⟨g14,10,none⟩=_:=F0.out.b14.cell 10;have i10:=F0.out.b14.frozen 10;have e11:Y.cell? ⟨g14,11,none⟩=_:=F0.out.b14.cell 11;have i11:=F0.out.b14.frozen 11;simp only [Fm.vals,List.getElem?_toArray,List.getElem?_cons_zero,List.getElem?_cons_succ] at e2 e3 e10 e11
     go_wp2_with fail
     go_wp2_with fail
     go_meet
     exact ⟨rfl,Blk.conv (((((F0.out.b14.aC 2 _).aC 3 _).aC 10 _).aC 11 _)) rfl,((((F0.out.b4.aG (p:=⟨g14,2,none⟩) (fun e=>hn4 e.symm) _).aG (p:=⟨g14,3,none⟩) (fun e=>hn4 e.symm) _).aG (p:=⟨g14,10,none⟩) (fun e=>hn4 e.symm) _).aG (p:=⟨g14,11,none⟩) (fun e=>hn4 e.symm) _),((((F0.out.fr.setCell (p:=⟨g14,2,none⟩) (.inr fB) _).setCell (p:=⟨g14,3,none⟩) (.inr fB) _).setCell (p:=⟨g14,10,none⟩) (.inr fB) _).setCell (p:=⟨g14,11,none⟩) (.inr fB) _)⟩
    ·obtain ⟨c80,c81,n8,m8⟩:=aK F0.out.b8 F0.out.b14
     obtain ⟨ard,arb,n10,m10⟩:=aK F0.out.b10 F0.out.b14;have e2:Y.cell? ⟨g14,2,none⟩=_:=F0.out.b14.cell 2;have i2:=F0.out.b14.frozen 2;have e3:Y.cell? ⟨g14,3,none⟩=_:=F0.out.b14.cell 3;have i3:=F0.out.b14.frozen 3;have e10:Y.cell? ⟨g14,10,none⟩=_:=F0.out.b14.cell 10;have i10:=F0.out.b14.frozen 10;have e11:Y.cell? ⟨g14,11,none⟩=_:=F0.out.b14.cell 11;have i11:=F0.out.b14.frozen 11;simp only [Fm.vals,List.getElem?_toArray,List.getElem?_cons_zero,List.getElem?_cons_succ] at e2 e3 e10 e11
     go_wp2_with fail
     go_region
     go_wp2_with fail
     go_meet
     exact ⟨rfl,Blk.conv (((((F0.out.b14.aC 2 _).aC 3 _).aC 10 _).aC 11 _).dM) rfl,((((F0.out.b4.aG (p:=⟨g14,2,none⟩) (fun e=>hn4 e.symm) _).aG (p:=⟨g14,3,none⟩) (fun e=>hn4 e.symm) _).aG (p:=⟨g14,10,none⟩) (fun e=>hn4 e.symm) _).aG (p:=⟨g14,11,none⟩) (fun e=>hn4 e.symm) _).dM,((((F0.out.fr.setCell (p:=⟨g14,2,none⟩) (.inr fB) _).setCell (p:=⟨g14,3,none⟩) (.inr fB) _).setCell (p:=⟨g14,10,none⟩) (.inr fB) _).setCell (p:=⟨g14,11,none⟩) (.inr fB) _).drew⟩
    ·obtain ⟨c80,c81,n8,m8⟩:=aK F0.out.b8 F0.out.b14
     obtain ⟨ard,arb,n10,m10⟩:=aK F0.out.b10 F0.out.b14;have e2:Y.cell? ⟨g14,2,none⟩=_:=F0.out.b14.cell 2;have i2:=F0.out.b14.frozen 2;have e3:Y.cell? ⟨g14,3,none⟩=_:=F0.out.b14.cell 3;have i3:=F0.out.b14.frozen 3;have e10:Y.cell? ⟨g14,10,none⟩=_:=F0.out.b14.cell 10;have i10:=F0.out.b14.frozen 10;have e11:Y.cell? ⟨g14,11,none⟩=_:=F0.out.b14.cell 11;have i11:=F0.out.b14.frozen 11;simp only [Fm.vals,List.getElem?_toArray,List.getElem?_cons_zero,List.getElem?_cons_succ] at e2 e3 e10 e11
     go_wp2_with fail
     go_region
     go_wp2_with fail
     go_meet
     exact ⟨rfl,Blk.conv (((((F0.out.b14.aC 2 _).aC 3 _).aC 10 _).aC 11 _).dM) rfl,((((F0.out.b4.aG (p:=⟨g14,2,none⟩) (fun e=>hn4 e.symm) _).aG (p:=⟨g14,3,none⟩) (fun e=>hn4 e.symm) _).aG (p:=⟨g14,10,none⟩) (fun e=>hn4 e.symm) _).aG (p:=⟨g14,11,none⟩) (fun e=>hn4 e.symm) _).dM,((((F0.out.fr.setCell (p:=⟨g14,2,none⟩) (.inr fB) _).setCell (p:=⟨g14,3,none⟩) (.inr fB) _).setCell (p:=⟨g14,10,none⟩) (.inr fB) _).setCell (p:=⟨g14,11,none⟩) (.inr fB) _).drew⟩
    ·obtain ⟨ard,arb,n10,m10⟩:=aK F0.out.b10 F0.out.b14
     have e10:Y.cell? ⟨g14,10,none⟩=_:=F0.out.b14.cell 10;have i10:=F0.out.b14.frozen 10;have e11:Y.cell? ⟨g14,11,none⟩=_:=F0.out.b14.cell 11;have i11:=F0.out.b14.frozen 11;simp only [Fm.vals,List.getElem?_toArray,List.getElem?_cons_zero,List.getElem?_cons_succ] at e10 e11
     go_wp2_with fail
     go_wp2_with fail
     go_meet
     exact ⟨rfl,Blk.conv (((F0.out.b14.aC 10 _).aC 11 _)) rfl,((F0.out.b4.aG (p:=⟨g14,10,none⟩) (fun e=>hn4 e.symm) _).aG (p:=⟨g14,11,none⟩) (fun e=>hn4 e.symm) _),((F0.out.fr.setCell (p:=⟨g14,10,none⟩) (.inr fB) _).setCell (p:=⟨g14,11,none⟩) (.inr fB) _)⟩
    ·obtain ⟨aw9,aw8,n11,m11⟩:=aK F0.out.b11 F0.out.b14
     have e4:Y.cell? ⟨g14,4,none⟩=_:=F0.out.b14.cell 4;have i4:=F0.out.b14.frozen 4;have e5:Y.cell? ⟨g14,5,none⟩=_:=F0.out.b14.cell 5;have i5:=F0.out.b14.frozen 5;have e10:Y.cell? ⟨g14,10,none⟩=_:=F0.out.b14.cell 10;have i10:=F0.out.b14.frozen 10;have e11:Y.cell? ⟨g14,11,none⟩=_:=F0.out.b14.cell 11;have i11:=F0.out.b14.frozen 11;simp only [Fm.vals,List.getElem?_toArray,List.getElem?_cons_zero,List.getElem?_cons_succ] at e4 e5 e10 e11;have hS:∀V:World,Fr (fun i=>i=g14) Y V→V.cell? ⟨q3,2,none⟩=some (.int .i64 nr)∧V.cell? ⟨g11,0,none⟩=some (.int .i64 0)∧V.cell? ⟨g11,1,none⟩=some (.int .i64 1)∧Fr (fun i=>i=g14) Y V:=fun V hV=>⟨(F0.out.b3.fr hV (F0.out.b3.ne_ F0.out.b14 dcd)).cell 2,(F0.out.b11.fr hV (F0.out.b11.ne_ F0.out.b14 dcd)).cell 0,(F0.out.b11.fr hV (F0.out.b11.ne_ F0.out.b14 dcd)).cell 1,hV⟩;have HS:=O hS;clear hS;have d3:Y.cell? ⟨q3,2,none⟩=some (.int .i64 nr):=F0.out.b3.cell 2;have n3:q3≠g14:=F0.out.b3.ne_ F0.out.b14 dcd;have m3:g14≠q3:=fun e=>n3 e.symm;have l14:=F0.out.b14.lt;have l11:=F0.out.b11.lt;have l3x:=F0.out.b3.lt
     go_wp2_with fail
     go_region_held3 (fun V=>V.cell? ⟨q3,2,none⟩=some (.int .i64 nr)∧V.cell? ⟨g11,0,none⟩=some (.int .i64 0)∧V.cell? ⟨g11,1,none⟩=some (.int .i64 1)∧Fr (fun i=>i=g14) Y V) (with_reducible refine HS.out _ ?_;repeat (first|with_reducible exact Fr.refl _ _|refine Fr.drew ?_|refine Fr.setAt ?_ _ _|refine Fr.alloc ?_ _)) (first|(go_at_call 305;refine (nH _ _ oy oy).mono ?_;rintro e w5 ⟨rfl,rfl⟩))
     go_wp2_with fail
     go_meet
     exact ⟨rfl,Blk.conv ((((((F0.out.b14.aC 4 _).aC 5 _).aC 10 _).aC 11 _).dJ _).dM) rfl,(((((F0.out.b4.aG (p:=⟨g14,4,none⟩) (fun e=>hn4 e.symm) _).aG (p:=⟨g14,5,none⟩) (fun e=>hn4 e.symm) _).aG (p:=⟨g14,10,none⟩) (fun e=>hn4 e.symm) _).aG (p:=⟨g14,11,none⟩) (fun e=>hn4 e.symm) _).dJ _).dM,(((((F0.out.fr.setCell (p:=⟨g14,4,none⟩) (.inr fB) _).setCell (p:=⟨g14,5,none⟩) (.inr fB) _).setCell (p:=⟨g14,10,none⟩) (.inr fB) _).setCell (p:=⟨g14,11,none⟩) (.inr fB) _).alloc _).drew⟩
    ·skip
     go_wp2_with fail
     go_wp2_with fail
     go_meet
     exact ⟨rfl,Blk.conv (F0.out.b14) rfl,F0.out.b4,F0.out.fr⟩
    ·skip
     go_wp2_with fail
     go_wp2_with fail
     go_meet
     exact ⟨rfl,Blk.conv (F0.out.b14) rfl,F0.out.b4,F0.out.fr⟩
    ·obtain ⟨c130,c131,n13,m13⟩:=aK F0.out.b13 F0.out.b14
     have e10:Y.cell? ⟨g14,10,none⟩=_:=F0.out.b14.cell 10;have i10:=F0.out.b14.frozen 10;have e11:Y.cell? ⟨g14,11,none⟩=_:=F0.out.b14.cell 11;have i11:=F0.out.b14.frozen 11;simp only [Fm.vals,List.getElem?_toArray,List.getElem?_cons_zero,List.getElem?_cons_succ] at e10 e11
     go_wp2_with fail
     go_wp2_with fail
     go_meet
     exact ⟨rfl,Blk.conv (((F0.out.b14.aC 10 _).aC 11 _)) rfl,((F0.out.b4.aG (p:=⟨g14,10,none⟩) (fun e=>hn4 e.symm) _).aG (p:=⟨g14,11,none⟩) (fun e=>hn4 e.symm) _),((F0.out.fr.setCell (p:=⟨g14,10,none⟩) (.inr fB) _).setCell (p:=⟨g14,11,none⟩) (.inr fB) _)⟩
    ·have hkb:inB 1 16 k=false:=by unfold inB;simp;omega
     have t:∀n:Int,1≤n→n≤16→(k == n)=false:=fun n h1 h2=>by simp;omega
     have t1:=t 1 oy oy;have t2:=t 2 oy oy;have t3:=t 3 oy oy;have t4:=t 4 oy oy;have t5:=t 5 oy oy;have t6:=t 6 oy oy;have t7:=t 7 oy oy;have t8:=t 8 oy oy;have t9:=t 9 oy oy;have t10:=t 10 oy oy;have t11:=t 11 oy oy;have t12:=t 12 oy oy;have t13:=t 13 oy oy;have t14:=t 14 oy oy;have t15:=t 15 oy oy;have t16:=t 16 oy oy;have o0:Y.cell? ⟨q4,0,none⟩=_:=F0.out.b4.cell 0;have i0:=F0.out.b4.frozen 0;have o1:Y.cell? ⟨q4,1,none⟩=_:=F0.out.b4.cell 1;have i1:=F0.out.b4.frozen 1;have o2:Y.cell? ⟨q4,2,none⟩=_:=F0.out.b4.cell 2;have i2:=F0.out.b4.frozen 2;have o3:Y.cell? ⟨q4,3,none⟩=_:=F0.out.b4.cell 3;have i3:=F0.out.b4.frozen 3;have o4:Y.cell? ⟨q4,4,none⟩=_:=F0.out.b4.cell 4;have i4:=F0.out.b4.frozen 4;have o5:Y.cell? ⟨q4,5,none⟩=_:=F0.out.b4.cell 5;have i5:=F0.out.b4.frozen 5;have o6:Y.cell? ⟨q4,6,none⟩=_:=F0.out.b4.cell 6;have i6:=F0.out.b4.frozen 6;have o7:Y.cell? ⟨q4,7,none⟩=_:=F0.out.b4.cell 7;have i7:=F0.out.b4.frozen 7;have o8:Y.cell? ⟨q4,8,none⟩=_:=F0.out.b4.cell 8;have i8:=F0.out.b4.frozen 8;have o9:Y.cell? ⟨q4,9,none⟩=_:=F0.out.b4.cell 9;have i9:=F0.out.b4.frozen 9;have o10:Y.cell? ⟨q4,10,none⟩=_:=F0.out.b4.cell 10;have i10:=F0.out.b4.frozen 10;have o11:Y.cell? ⟨q4,11,none⟩=_:=F0.out.b4.cell 11;have i11:=F0.out.b4.frozen 11;simp only [Fm.vals,List.getElem?_toArray,List.getElem?_cons_zero,List.getElem?_cons_succ] at o0 o1 o2 o3 o4 o5 o6 o7 o8 o9 o10 o11;clear t;have Hkb:=Go.Lib.hid hkb;clear hkb
     go_wp2_with fail
     refine bodyPost_ret (lD oM q4 false _ _ (Blk.conv (((((((((((((F0.out.b4.aC 0 _).aC 1 _).aC 2 _).aC 3 _).aC 4 _).aC 5 _).aC 6 _).aC 7 _).aC 8 _).aC 9 _).aC 10 _).aC 11 _)) rfl) rfl rfl) rfl ?_;unfold xK;rw [Hkb.out];exact ⟨rfl,((((((((((((F0.out.fr.setCell (p:=⟨q4,0,none⟩) (.inr kN) _).setCell (p:=⟨q4,1,none⟩) (.inr kN) _).setCell (p:=⟨q4,2,none⟩) (.inr kN) _).setCell (p:=⟨q4,3,none⟩) (.inr kN) _).setCell (p:=⟨q4,4,none⟩) (.inr kN) _).setCell (p:=⟨q4,5,none⟩) (.inr kN) _).setCell (p:=⟨q4,6,none⟩) (.inr kN) _).setCell (p:=⟨q4,7,none⟩) (.inr kN) _).setCell (p:=⟨q4,8,none⟩) (.inr kN) _).setCell (p:=⟨q4,9,none⟩) (.inr kN) _).setCell (p:=⟨q4,10,none⟩) (.inr kN) _).setCell (p:=⟨q4,11,none⟩) (.inr kN) _)⟩
   case rest=>
    obtain ⟨hk,b14,b4,fz⟩:=hcut;obtain ⟨Z,rfl⟩:∃Z:World,Z=wc:=⟨_,rfl⟩;obtain ⟨f,hf⟩:∃f:Fm,f=kR k nt nc nr nv:=⟨_,rfl⟩;rw [←hf] at b14;have e0:Z.cell? ⟨g14,0,none⟩=_:=b14.cell 0;have e1:Z.cell? ⟨g14,1,none⟩=_:=b14.cell 1;have e2:Z.cell? ⟨g14,2,none⟩=_:=b14.cell 2;have e3:Z.cell? ⟨g14,3,none⟩=_:=b14.cell 3;have e4:Z.cell? ⟨g14,4,none⟩=_:=b14.cell 4;have e5:Z.cell? ⟨g14,5,none⟩=_:=b14.cell 5;have e6:Z.cell? ⟨g14,6,none⟩=_:=b14.cell 6;have e7:Z.cell? ⟨g14,7,none⟩=_:=b14.cell 7;have e8:Z.cell? ⟨g14,8,none⟩=_:=b14.cell 8;have e9:Z.cell? ⟨g14,9,none⟩=_:=b14.cell 9;have e10:Z.cell? ⟨g14,10,none⟩=_:=b14.cell 10;have e11:Z.cell? ⟨g14,11,none⟩=_:=b14.cell 11;simp only [Fm.vals,List.getElem?_toArray,List.getElem?_cons_zero,List.getElem?_cons_succ] at e0 e1 e2 e3 e4 e5 e6 e7 e8 e9 e10 e11;have o0:Z.cell? ⟨q4,0,none⟩=_:=b4.cell 0;have i0:=b4.frozen 0;have o1:Z.cell? ⟨q4,1,none⟩=_:=b4.cell 1;have i1:=b4.frozen 1;have o2:Z.cell? ⟨q4,2,none⟩=_:=b4.cell 2;have i2:=b4.frozen 2;have o3:Z.cell? ⟨q4,3,none⟩=_:=b4.cell 3;have i3:=b4.frozen 3;have o4:Z.cell? ⟨q4,4,none⟩=_:=b4.cell 4;have i4:=b4.frozen 4;have o5:Z.cell? ⟨q4,5,none⟩=_:=b4.cell 5;have i5:=b4.frozen 5;have o6:Z.cell? ⟨q4,6,none⟩=_:=b4.cell 6;have i6:=b4.frozen 6;have o7:Z.cell? ⟨q4,7,none⟩=_:=b4.cell 7;have i7:=b4.frozen 7;have o8:Z.cell? ⟨q4,8,none⟩=_:=b4.cell 8;have i8:=b4.frozen 8;have o9:Z.cell? ⟨q4,9,none⟩=_:=b4.cell 9;have i9:=b4.frozen 9;have o10:Z.cell? ⟨q4,10,none⟩=_:=b4.cell 10;have i10:=b4.frozen 10;have o11:Z.cell? ⟨q4,11,none⟩=_:=b4.cell 11
    have i11:=b4.frozen 11;simp only [Fm.vals,List.getElem?_toArray,List.getElem?_cons_zero,List.getElem?_cons_succ] at o0 o1 o2 o3 o4 o5 o6 o7 o8 o9 o10 o11;obtain ⟨B14,B4,FZ,HK,HF⟩:=jq b14 b4 fz hk hf;clear b14 b4 fz hk hf
    go_wp2_with fail
    refine bodyPost_ret (lD f q4 true _ _ (ab6 f B4.out) rfl rfl) rfl ?_;unfold xK;rw [HK.out,←HF.out];exact ⟨rfl,sM f FZ.out kN⟩
end Go.Proofs.YtodkhcbjpodgeaaGreat
