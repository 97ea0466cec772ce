/-
  The state of the sanity check, in memory.
-/
import Derived.Test.YtodkhcbjpodgeaaGreatG34
namespace Go.Proofs.YtodkhcbjpodgeaaGreat
open Go.ChangeShapes Go.WideShapes Go.ChangeAt Go.RowKit
set_option linter.unusedVariables false
set_option maxRecDepth 100000
set_option maxHeartbeats 4000000
section
set_option linter.unusedSimpArgs false
variable {w w' :World}{F G:Nat→Prop}
abbrev iT:TypeId:=105
abbrev TSg:TypeId:=169
abbrev TTs:TypeId:=227
abbrev TCs:TypeId:=230
def sxT:Nat→List Value
 |0=>[.bool false,.bool false,.int .i64 (-1),.int .i64 (-1),.int .i64 (-1),.int .i64 (-1),.int .i64 0,.int .i64 (-1),.int .i64 0,.int .i64 0,.int .i64 0,.int .i64 0]
 |1=>[.bool true,.bool false,.int .i64 0,.int .i64 1,.int .i64 (-1),.int .i64 (-1),.int .i64 0,.int .i64 (-1),.int .i64 0,.int .i64 0,.int .i64 0,.int .i64 0]
 |_=>[.bool true,.bool false,.int .i64 0,.int .i64 1,.int .i64 (-1),.int .i64 (-1),.int .i64 1,.int .i64 0,.int .i64 1,.int .i64 0,.int .i64 0,.int .i64 20]
structure Sx where
 st:Nat
 kt:Nat
 sc:Nat
 kc:Nat
abbrev Sx.arr (s:Sx)(k:Nat):Array Value:= #[.int .i64 0,.int .i64 (k:Int),.slice (some ⟨s.st,0,none⟩) 1 s.kt,.slice (some ⟨s.sc,0,none⟩) 2 s.kc,.int .i64 1,.int .i64 0,.int .i64 0,.int .i64 0]
structure eD (w:World) (F:Nat→Prop) (s:Sx) (k:Nat):Prop where
 t:aA w F TTs 12 (.slice (some ⟨s.st,0,none⟩) 1 s.kt) 1 (sxT k)
 c:aA w F TCs 4 (.slice (some ⟨s.sc,0,none⟩) 2 s.kc) 2 [.int .i64 1,.int .i64 0,.int .i64 0,.int .i64 0,.int .i64 1,.int .i64 0,.int .i64 0,.int .i64 0]
theorem eD.frF {s:Sx}{k:Nat}(h:eD w F s k)(hf:Fr G w w')(hd:∀i,F i→¬G i):eD w' F s k:=⟨h.t.frF hf hd,h.c.frF hf hd⟩
theorem eD.au {s:Sx}{k:Nat}(h:eD w F s k)(hf:Fr No w w'):eD w' F s k:=h.frF hf fun _ _ h=>h
theorem eD.mono {s:Sx}{k:Nat}(h:eD w F s k)(hF:∀i,F i→G i):eD w G s k:=⟨h.t.mono hF,h.c.mono hF⟩
theorem eD.lts {s:Sx}{k:Nat}(h:eD w F s k):(s.st<w.heap.size∧s.sc<w.heap.size)∧(1≤s.kt∧s.kt≤maxLen)∧(2≤s.kc∧s.kc≤maxLen):=⟨⟨(h.t.cells dcd).1,(h.c.cells dcd).1⟩,h.t.cap,h.c.cap⟩
theorem jf {V:World}{g:Nat}{t:TypeId}{a0 a1 a2 a3 a4 a5 a6 a7:Value}(h:Blk V g t #[a0,a1,a2,a3,a4,a5,a6,a7]):V.cell? ⟨g,0,none⟩=some a0∧V.cell? ⟨g,1,none⟩=some a1∧V.cell? ⟨g,2,none⟩=some a2∧V.cell? ⟨g,3,none⟩=some a3∧V.cell? ⟨g,4,none⟩=some a4∧V.cell? ⟨g,5,none⟩=some a5∧V.cell? ⟨g,6,none⟩=some a6∧V.cell? ⟨g,7,none⟩=some a7:=⟨h.cell 0,h.cell 1,h.cell 2,h.cell 3,h.cell 4,h.cell 5,h.cell 6,h.cell 7⟩
theorem zo {V:World}{g:Nat}{t:TypeId}{a0 a1 a2 a3 a4 a5 a6 a7 a8:Value}(h:Blk V g t #[a0,a1,a2,a3,a4,a5,a6,a7,a8]):V.cell? ⟨g,0,none⟩=some a0∧V.cell? ⟨g,1,none⟩=some a1∧V.cell? ⟨g,2,none⟩=some a2∧V.cell? ⟨g,3,none⟩=some a3∧V.cell? ⟨g,4,none⟩=some a4∧V.cell? ⟨g,5,none⟩=some a5∧V.cell? ⟨g,6,none⟩=some a6∧V.cell? ⟨g,7,none⟩=some a7∧V.cell? ⟨g,8,none⟩=some a8:=⟨h.cell 0,h.cell 1,h.cell 2,h.cell 3,h.cell 4,h.cell 5,h.cell 6,h.cell 7,h.cell 8⟩
theorem Fr.bR {a b c:World}(h:Fr F a b)(k:Fr No b c):Fr F a c:=h.trans k fun _ h=>h.elim
theorem eD.off {s:Sx}{k g:Nat}(h:eD w F s k)(hf:Fr (fun b=>b=g) w w')(h1:s.st≠g)(h2:s.sc≠g):eD w' F s k:=
 ⟨h.t.fr' hf fun b hb e=>(by injection hb with hb;exact h1 (hb.trans e)),h.c.fr' hf fun b hb e=>(by injection hb with hb;exact h2 (hb.trans e))⟩
def agv (w:World)(g k:Nat)(W:World):Prop:=
 ∃b1 c1 b2 c2,b1≠b2∧Blk W g TSg #[.int .i64 0,.int .i64 (k:Int),.slice (some ⟨b1,0,none⟩) 1 c1,.slice (some ⟨b2,0,none⟩) 2 c2,.int .i64 1,.int .i64 0,.int .i64 0,.int .i64 0]∧eD W (fun b=>w.heap.size≤b) ⟨b1,c1,b2,c2⟩ k∧Fr (fun b=>b=g) w W
theorem aA.one {e:TypeId}{size n c g:Nat}{xs:List Value}(h:aA w F e size (.slice (some ⟨g,0,none⟩) n c) n xs):aA w (fun b=>b=g) e size (.slice (some ⟨g,0,none⟩) n c) n xs:=⟨h.1,fun k hk=>by injection hk with hk;exact hk.symm⟩
theorem vv {w3 v1 v2:World}{g k:Nat}{A1 A2:Option Addr}{c1 c2:Nat}{x2 x3:Value}(hb:Blk w3 g TSg #[.int .i64 0,.int .i64 (k:Int),x2,x3,.int .i64 1,.int .i64 0,.int .i64 0,.int .i64 0])(o1:aA v1 (fun b=>w3.drew.heap.size≤b) TTs 12 (.slice A1 1 c1) 1 (sxT k))(f1:Fr No w3.drew v1)(o2:aA v2 (fun b=>v1.heap.size≤b) TCs 4 (.slice A2 2 c2) 2 [.int .i64 1,.int .i64 0,.int .i64 0,.int .i64 0,.int .i64 1,.int .i64 0,.int .i64 0,.int .i64 0])(f2:Fr No v1 v2):
  agv w3 g k (World.setCell (World.setCell v2 ⟨g,2,none⟩ (.slice A1 1 c1)) ⟨g,3,none⟩ (.slice A2 2 c2)):=by
 obtain ⟨b1,rfl,azh,h1,_⟩:=o1.head dcd;obtain ⟨b2,rfl,azg,h2,_⟩:=o2.head dcd;have h1:w3.drew.heap.size≤b1:=h1;have h2:v1.heap.size≤b2:=h2;have hgl:=hb.lt;have e0:w3.drew.heap.size=w3.heap.size:=rfl;have s1:=f1.size;have s2:=f2.size;have hs:=((Fr.refl (fun b=>b=g) v2).setCell (p:=⟨g,2,none⟩) (.inl rfl) (.slice (some ⟨b1,0,none⟩) 1 c1)).setCell (p:=⟨g,3,none⟩) (.inl rfl) (.slice (some ⟨b2,0,none⟩) 2 c2);have f3:Fr No w3 v2:=(((Fr.refl No w3).drew).ah f1).ah f2;refine ⟨b1,c1,b2,c2,by omega,Blk.cv (((hb.fr f3 id).aC 2 _).aC 3 _) (by simp),⟨?_,?_⟩,(f3.mono fun _ h=>h.elim:Fr (fun b=>b=g) w3 v2).trans hs fun b hb=> .inl hb⟩
 ·refine ((o1.au f2).fr' hs fun b hb e=> ?_).mono fun b hb=> ?_
  ·injection hb with hb
   simp only at hb;have e:b=g:=e
   omega
  ·rw [e0] at hb;exact hb
 ·refine (o2.fr' hs fun b hb e=> ?_).mono fun b hb=> ?_
  ·injection hb with hb
   simp only at hb;have e:b=g:=e
   omega
  ·omega
theorem acj {w3 W:World}{g g2 g3 k b1 c1 b2 c2:Nat}{a0 a1 a2 a3:Value}{es zs:Array Value}(hb:Blk W g TSg #[a0,a1,a2,a3,.int .i64 1,.int .i64 0,.int .i64 0,.int .i64 0])(hs:eD W (fun b=>w3.heap.size≤b) ⟨b1,c1,b2,c2⟩ k)(hf:Fr (fun b=>b=g) w3 W)(h1:g<b1)(h2:g<b2)(he:Blk W g2 iT es)(hz:Blk W g3 TSg zs)(hg2:g2≠g)(hg3:g3≠g)(x0 x1:Value):
  Blk (World.setCell (World.setCell W ⟨g,0,none⟩ x0) ⟨g,1,none⟩ x1) g TSg #[x0,x1,a2,a3,.int .i64 1,.int .i64 0,.int .i64 0,.int .i64 0]∧eD (World.setCell (World.setCell W ⟨g,0,none⟩ x0) ⟨g,1,none⟩ x1) (fun b=>w3.heap.size≤b) ⟨b1,c1,b2,c2⟩ k∧Fr (fun b=>b=g) w3 (World.setCell (World.setCell W ⟨g,0,none⟩ x0) ⟨g,1,none⟩ x1)∧Blk (World.setCell (World.setCell W ⟨g,0,none⟩ x0) ⟨g,1,none⟩ x1) g2 iT es∧Blk (World.setCell (World.setCell W ⟨g,0,none⟩ x0) ⟨g,1,none⟩ x1) g3 TSg zs:=by
 have hq:=((Fr.refl (fun b=>b=g) W).setCell (p:=⟨g,0,none⟩) (.inl rfl) x0).setCell (p:=⟨g,1,none⟩) (.inl rfl) x1;exact ⟨Blk.cv ((hb.aC 0 x0).aC 1 x1) (by simp),hs.off hq (show b1≠g by omega) (show b2≠g by omega),hf.trans hq fun b hb=> .inl hb,he.fr hq hg2,hz.fr hq hg3⟩
theorem kT {V:World}{g3 k b1 c1 b2 c2:Nat}{zs0 zs1 zs2 zs3 zs4 zs5 zs6 zs7:Value}{ys:List Value}(hz:Blk V g3 TSg #[zs0,zs1,zs2,zs3,zs4,zs5,zs6,zs7])(o1:aA V F TTs 12 (.slice (some ⟨b1,0,none⟩) 1 c1) 1 (sxT k))(o2:aA V G TCs 4 (.slice (some ⟨b2,0,none⟩) 2 c2) 2 ys)(h1:g3≠b1)(h2:g3≠b2)(x0 x1 x2 x3 x4 x5 x6 x7:Value):
  Blk (World.setCell (World.setCell (World.setCell (World.setCell (World.setCell (World.setCell (World.setCell (World.setCell V ⟨g3,0,none⟩ x0) ⟨g3,1,none⟩ x1) ⟨g3,2,none⟩ x2) ⟨g3,3,none⟩ x3) ⟨g3,4,none⟩ x4) ⟨g3,5,none⟩ x5) ⟨g3,6,none⟩ x6) ⟨g3,7,none⟩ x7) g3 TSg #[x0,x1,x2,x3,x4,x5,x6,x7]∧aA (World.setCell (World.setCell (World.setCell (World.setCell (World.setCell (World.setCell (World.setCell (World.setCell V ⟨g3,0,none⟩ x0) ⟨g3,1,none⟩ x1) ⟨g3,2,none⟩ x2) ⟨g3,3,none⟩ x3) ⟨g3,4,none⟩ x4) ⟨g3,5,none⟩ x5) ⟨g3,6,none⟩ x6) ⟨g3,7,none⟩ x7) F TTs 12 (.slice (some ⟨b1,0,none⟩) 1 c1) 1 (sxT k)∧aA (World.setCell (World.setCell (World.setCell (World.setCell (World.setCell (World.setCell (World.setCell (World.setCell V ⟨g3,0,none⟩ x0) ⟨g3,1,none⟩ x1) ⟨g3,2,none⟩ x2) ⟨g3,3,none⟩ x3) ⟨g3,4,none⟩ x4) ⟨g3,5,none⟩ x5) ⟨g3,6,none⟩ x6) ⟨g3,7,none⟩ x7) G TCs 4 (.slice (some ⟨b2,0,none⟩) 2 c2) 2 ys∧
  Fr (fun b=>b=g3) V (World.setCell (World.setCell (World.setCell (World.setCell (World.setCell (World.setCell (World.setCell (World.setCell V ⟨g3,0,none⟩ x0) ⟨g3,1,none⟩ x1) ⟨g3,2,none⟩ x2) ⟨g3,3,none⟩ x3) ⟨g3,4,none⟩ x4) ⟨g3,5,none⟩ x5) ⟨g3,6,none⟩ x6) ⟨g3,7,none⟩ x7):=by
 have hq:=((((((((Fr.refl (fun b=>b=g3) V).setCell (p:=⟨g3,0,none⟩) (.inl rfl) x0).setCell (p:=⟨g3,1,none⟩) (.inl rfl) x1).setCell (p:=⟨g3,2,none⟩) (.inl rfl) x2).setCell (p:=⟨g3,3,none⟩) (.inl rfl) x3).setCell (p:=⟨g3,4,none⟩) (.inl rfl) x4).setCell (p:=⟨g3,5,none⟩) (.inl rfl) x5).setCell (p:=⟨g3,6,none⟩) (.inl rfl) x6).setCell (p:=⟨g3,7,none⟩) (.inl rfl) x7;refine ⟨Blk.cv ((((((((hz.aC 0 x0).aC 1 x1).aC 2 x2).aC 3 x3).aC 4 x4).aC 5 x5).aC 6 x6).aC 7 x7) (by simp),o1.fr' hq fun b hb e=> ?_,o2.fr' hq fun b hb e=> ?_,hq⟩
 ·injection hb with hb
  simp only at hb;have e:b=g3:=e
  omega
 ·injection hb with hb
  simp only at hb;have e:b=g3:=e
  omega
theorem ahk {w w3 W5 v W6:World}{g1 b1 g3:Nat}(f:Fr No w w3)(h:Fr (fun b=>b=g1) w3 W5)(k:Fr (fun b=>b=b1) W5 v)(l:Fr (fun b=>b=g3) v W6)(h1:w.heap.size≤g1)(h2:w.heap.size≤b1)(h3:w.heap.size≤g3):Fr No w W6:=
 ((f.aD h fun b hb=>by have hb:b=g1:=hb;omega).aD k fun b hb=>by have hb:b=b1:=hb;omega).aD l fun b hb=>by have hb:b=g3:=hb;omega
theorem jg {f:Func}(k:Nat){g:Nat}(ts:Array Value){a0 a1 a2 a3 a4 a5 a6 a7:Value}{W:World}(hb:Blk W g TSg #[a0,a1,a2,a3,a4,a5,a6,a7])(h2:ts[k]?.getD undef= .pointer (some ⟨g,0,none⟩))(hr:f.results= #[.cell k TSg]):(results f ts).run Tryz.prog W= .ok (.agg #[a0,a1,a2,a3,a4,a5,a6,a7]) W:=by
 obtain ⟨c0,c1,c2,c3,c4,c5,c6,c7⟩:=jf hb
 simp [results,hr,go_sem,h2,c0,c1,c2,c3,c4,c5,c6,c7]
theorem mg {f:Func}(k j:Nat){g:Nat}(ts:Array Value){a0 a1 a2 a3 a4 a5 a6 a7 e:Value}{W:World}(hb:Blk W g TSg #[a0,a1,a2,a3,a4,a5,a6,a7])(h2:ts[k]?.getD undef= .pointer (some ⟨g,0,none⟩))(h3:ts[j]?.getD undef=e)(hr:f.results= #[.cell k TSg,.tmp j]):(results f ts).run Tryz.prog W= .ok (.tuple #[.agg #[a0,a1,a2,a3,a4,a5,a6,a7],e]) W:=by
 obtain ⟨c0,c1,c2,c3,c4,c5,c6,c7⟩:=jf hb
 simp [results,hr,go_sem,h2,h3,c0,c1,c2,c3,c4,c5,c6,c7]
theorem arh {w3 W4:World}{a b:Array Value}{s t:TypeId}(h:((w3.alloc (.cells a s)).alloc (.cells b t)).drew=W4):Blk W4 w3.heap.size s a∧Blk W4 (w3.heap.size+1) t b∧Fr No w3 W4:=by
 subst h;have h1:(w3.alloc (.cells a s)).heap.size=w3.heap.size+1:=by simp
 refine ⟨((Blk.new w3 s a).fr (aj _ _) id).fr ((Fr.refl No _).drew) id,?_,((aj w3 _).alloc _).drew⟩;rw [←h1];exact (Blk.new _ t b).fr ((Fr.refl No _).drew) id
theorem axb {V:World}{g:Nat}{t:TypeId}{a0 a1 a2 a3:Value}(h:Blk V g t #[a0,a1,a2,a3]):V.cell? ⟨g,0,none⟩=some a0∧V.cell? ⟨g,1,none⟩=some a1∧V.cell? ⟨g,2,none⟩=some a2∧V.cell? ⟨g,3,none⟩=some a3:=⟨h.cell 0,h.cell 1,h.cell 2,h.cell 3⟩
theorem nV {V:World}{g:Nat}{t:TypeId}{a0 a1 a2 a3 a4 a5 a6 a7 a8 a9 a10 a11:Value}(h:Blk V g t #[a0,a1,a2,a3,a4,a5,a6,a7,a8,a9,a10,a11]):V.cell? ⟨g,0,none⟩=some a0∧V.cell? ⟨g,1,none⟩=some a1∧V.cell? ⟨g,2,none⟩=some a2∧V.cell? ⟨g,3,none⟩=some a3∧V.cell? ⟨g,4,none⟩=some a4∧V.cell? ⟨g,5,none⟩=some a5∧V.cell? ⟨g,6,none⟩=some a6∧V.cell? ⟨g,7,none⟩=some a7∧V.cell? ⟨g,8,none⟩=some a8∧V.cell? ⟨g,9,none⟩=some a9∧V.cell? ⟨g,10,none⟩=some a10∧V.cell? ⟨g,11,none⟩=some a11:=⟨h.cell 0,h.cell 1,h.cell 2,h.cell 3,h.cell 4,h.cell 5,h.cell 6,h.cell 7,h.cell 8,h.cell 9,h.cell 10,h.cell 11⟩
end
section
set_option linter.unusedSimpArgs false
variable {w w' :World}{F G:Nat→Prop}
theorem aA.aak {e:TypeId}{size n c g:Nat}{xs:List Value}(h:aA w F e size (.slice (some ⟨g,0,none⟩) n c) n xs){k:Nat}(hk:k<n*size)(u:Value):aA (w.setCell ⟨g,k,none⟩ u) F e size (.slice (some ⟨g,0,none⟩) n c) n (xs.set k u):=by
 rcases h.1.2 with ⟨h0,_⟩|⟨g',cap,cur,hv,hb,hgg,hnc,hcm,hcs,htk⟩
 ·cases h0
 injection hv with e1 e2 e3;injection e1 with e1;injection e1 with e1;subst e1 e3;have hblk:Blk w g e cur:=hgg;refine ⟨⟨by rw [List.length_set];exact h.1.1,.inr ⟨g,c,_,rfl,Nat.zero_le _,hblk.aC k u,hnc,hcm,by simpa using hcs,?_⟩⟩,h.2⟩;rw [←htk]
 simp [List.take_set]
theorem lS {e:TypeId}{size n:Nat}{v:Value}{xs ys:List Value}(h:aA w F e size v n xs)(hx:xs=ys):aA w F e size v n ys:=hx▸h
theorem ae0 {g c:Nat}(h:aA w F TTs 12 (.slice (some ⟨g,0,none⟩) 1 c) 1 (sxT 0)):Calls Tryz.prog 197 #[.pointer (some ⟨g,0,none⟩),.agg #[.int .i64 1,.int .i64 0,.int .i64 0,.int .i64 0,.int .i64 1,.int .i64 0,.int .i64 0,.int .i64 0,.int .i64 0]] w fun e w' =>e= .returned (.tuple #[])∧aA w' F TTs 12 (.slice (some ⟨g,0,none⟩) 1 c) 1 (sxT 1)∧Fr F w w' :=by
 obtain ⟨hgl,hFg,hc⟩:=h.cells dcd;have hfz:∀k,w.frozen? ⟨g,k,none⟩=false:=fun k=>by obtain ⟨cur,hb,_⟩:=h.ahq;exact hb.frozen k
 have x0:=hc 0 dcd;have x2:=hc 2 dcd;have x3:=hc 3 dcd;have z0:=hfz 0;have z2:=hfz 2;have z3:=hfz 3;simp only [sxT,List.getElem?_cons_zero,List.getElem?_cons_succ] at x0 x2 x3;have hne:g≠w.heap.size:=by omega
 have HO:=O h;clear h hc hfz
 go_in
 go_upto_region 3 with fail
 go_region
 all_goals go_wp2_with fail
 have ho:=(((HO.out.aak (k:=0) dcd (.bool true)).aak (k:=2) dcd (.int .i64 0)).aak (k:=3) dcd (.int .i64 1));have hf:=((((Fr.refl F w).setCell (p:=⟨g,0,none⟩) (.inl hFg) (.bool true)).setCell (p:=⟨g,2,none⟩) (.inl hFg) (.int .i64 0)).setCell (p:=⟨g,3,none⟩) (.inl hFg) (.int .i64 1));exact bodyPost_end (results_none rfl _ _ _) rfl ⟨rfl,lS (ho.au ((aj _ _).drew)) rfl,(hf.alloc _).drew⟩
theorem uR {g c:Nat}(h:aA w F TTs 12 (.slice (some ⟨g,0,none⟩) 1 c) 1 (sxT 1)):Calls Tryz.prog 242 #[.pointer (some ⟨g,0,none⟩),.agg #[.int .i64 2,.int .i64 0,.int .i64 0,.int .i64 0,.int .i64 (-1),.int .i64 1,.int .i64 0,.int .i64 20,.int .i64 0]] w fun e w' =>e= .returned (.tuple #[])∧aA w' F TTs 12 (.slice (some ⟨g,0,none⟩) 1 c) 1 (sxT 2)∧Fr F w w' :=by
 obtain ⟨hgl,hFg,hc⟩:=h.cells dcd;have hfz:∀k,w.frozen? ⟨g,k,none⟩=false:=fun k=>by obtain ⟨cur,hb,_⟩:=h.ahq;exact hb.frozen k
 have y2:=hc 2 dcd;have x6:=hc 6 dcd;have z6:=hfz 6;have x7:=hc 7 dcd;have z7:=hfz 7;have x8:=hc 8 dcd;have z8:=hfz 8;have x9:=hc 9 dcd;have z9:=hfz 9;have x10:=hc 10 dcd;have z10:=hfz 10;have x11:=hc 11 dcd;have z11:=hfz 11;simp only [sxT,List.getElem?_cons_zero,List.getElem?_cons_succ] at y2 x6 x7 x8 x9 x10 x11;have hne:g≠w.heap.size:=by omega
 have HO:=O h;clear h hc hfz
 go_in
 go_wp2_with fail
 have ho:=((((((HO.out.aak (k:=7) dcd (.int .i64 0)).aak (k:=8) dcd (.int .i64 1)).aak (k:=9) dcd (.int .i64 0)).aak (k:=10) dcd (.int .i64 0)).aak (k:=11) dcd (.int .i64 20)).aak (k:=6) dcd (.int .i64 1));have hf:=(((((((Fr.refl F w).setCell (p:=⟨g,7,none⟩) (.inl hFg) (.int .i64 0)).setCell (p:=⟨g,8,none⟩) (.inl hFg) (.int .i64 1)).setCell (p:=⟨g,9,none⟩) (.inl hFg) (.int .i64 0)).setCell (p:=⟨g,10,none⟩) (.inl hFg) (.int .i64 0)).setCell (p:=⟨g,11,none⟩) (.inl hFg) (.int .i64 20)).setCell (p:=⟨g,6,none⟩) (.inl hFg) (.int .i64 1));exact bodyPost_end (results_none rfl _ _ _) rfl ⟨rfl,lS (ho.au (aj _ _)) rfl,hf.alloc _⟩
theorem aez {g c:Nat}(h:aA w F TTs 12 (.slice (some ⟨g,0,none⟩) 1 c) 1 (sxT 1)):Calls Tryz.prog 197 #[.pointer (some ⟨g,0,none⟩),.agg #[.int .i64 2,.int .i64 0,.int .i64 0,.int .i64 0,.int .i64 (-1),.int .i64 1,.int .i64 0,.int .i64 20,.int .i64 0]] w fun e w' =>e= .returned (.tuple #[])∧aA w' F TTs 12 (.slice (some ⟨g,0,none⟩) 1 c) 1 (sxT 2)∧Fr F w w' :=by
 have hgr:=fun V (hV:Fr No w V)=>uR (h.au hV);have HGR:=O hgr;clear h hgr
 go_in
 go_wp2_with (go_at_call 242;refine (HGR.out _ (by with_reducible ((repeat (first|assumption|exact Fr.refl _ _|refine Fr.alloc ?_ _|refine Fr.drew ?_|refine Fr.drewN ?_ _));done))).mono ?_;rintro e v ⟨rfl,O1,f1⟩)
 exact bodyPost_end (results_none rfl _ _ _) rfl ⟨rfl,O1,((aj w _).mono fun _ h=>h.elim:Fr F w _).trans f1 fun b hb=> .inl hb⟩
end
section
set_option linter.unusedSimpArgs false
variable {w w' :World}{F G:Nat→Prop}
theorem sS (w:World){bz cz bc cc bt ct bv cv br cr bo co st kt sc kc:Nat}(k:Int):Calls Tryz.prog 243 #[.agg #[.int .i64 2,.slice (some ⟨bz,0,none⟩) 2 cz,.slice (some ⟨bc,0,none⟩) 2 cc,.slice (some ⟨bt,0,none⟩) 1 ct,.slice (some ⟨bv,0,none⟩) 1 cv,.slice (some ⟨br,0,none⟩) 1 cr,.slice (some ⟨bo,0,none⟩) 1 co,.int .i64 1,.int .i64 20,.int .i64 0],.agg #[.int .i64 0,.int .i64 k,.slice (some ⟨st,0,none⟩) 1 kt,.slice (some ⟨sc,0,none⟩) 2 kc,.int .i64 1,.int .i64 0,.int .i64 0,.int .i64 0]] w fun e w' =>e= .returned (.int .i64 1)∧Fr No w w' :=by
 go_in
 go_wp2_with fail
 go_ret
 exact ⟨rfl,(aj _ _).alloc _⟩
theorem vN (w:World):Calls Tryz.prog 244 #[.agg #[.bool true,.bool false,.int .i64 0,.int .i64 1,.int .i64 (-1),.int .i64 (-1),.int .i64 0,.int .i64 (-1),.int .i64 0,.int .i64 0,.int .i64 0,.int .i64 0]] w fun e w' =>e= .returned (.bool true)∧Fr No w w' :=by
 go_in
 go_wp2_with fail
 go_ret
 exact ⟨rfl,aj _ _⟩
theorem vM (w:World):Calls Tryz.prog 244 #[.agg #[.bool true,.bool false,.int .i64 0,.int .i64 1,.int .i64 (-1),.int .i64 (-1),.int .i64 1,.int .i64 0,.int .i64 1,.int .i64 0,.int .i64 0,.int .i64 20]] w fun e w' =>e= .returned (.bool true)∧Fr No w w' :=by
 go_in
 go_wp2_with fail
 go_ret
 exact ⟨rfl,aj _ _⟩
theorem anv {g c:Nat}(h:aA w F TIm 1 (.slice (some ⟨g,0,none⟩) 2 c) 2 [.int .i64 0,.int .i64 0]):Calls Tryz.prog 245 #[.slice (some ⟨g,0,none⟩) 2 c,.int .i64 0,.int .i64 5] w fun e w' =>e= .returned (.tuple #[])∧aA w' F TIm 1 (.slice (some ⟨g,0,none⟩) 2 c) 2 [.int .i64 5,.int .i64 0]∧Fr F w w' :=by
 obtain ⟨hgl,hFg,hc⟩:=h.cells dcd;have x0:=hc 0 dcd;have x1:=hc 1 dcd;have z:w.frozen? ⟨g,0,none⟩=false:=by obtain ⟨cur,hb,_⟩:=h.ahq;exact hb.frozen _
 simp only [List.getElem?_cons_zero,List.getElem?_cons_succ] at x0 x1;have HO:=O h;clear h hc
 go_in
 go_wp2_with fail
 exact bodyPost_end (results_none rfl _ _ _) rfl ⟨rfl,lS (HO.out.aak (k:=0) dcd (.int .i64 5)) rfl,(Fr.refl F w).setCell (p:=⟨g,0,none⟩) (.inl hFg) _⟩
theorem anu {g c:Nat}(h:aA w F TIm 1 (.slice (some ⟨g,0,none⟩) 2 c) 2 [.int .i64 5,.int .i64 0]):Calls Tryz.prog 245 #[.slice (some ⟨g,0,none⟩) 2 c,.int .i64 1,.int .i64 2] w fun e w' =>e= .returned (.tuple #[])∧aA w' F TIm 1 (.slice (some ⟨g,0,none⟩) 2 c) 2 [.int .i64 5,.int .i64 2]∧Fr F w w' :=by
 obtain ⟨hgl,hFg,hc⟩:=h.cells dcd;have x0:=hc 0 dcd;have x1:=hc 1 dcd;have z:w.frozen? ⟨g,1,none⟩=false:=by obtain ⟨cur,hb,_⟩:=h.ahq;exact hb.frozen _
 simp only [List.getElem?_cons_zero,List.getElem?_cons_succ] at x0 x1;have HO:=O h;clear h hc
 go_in
 go_wp2_with fail
 exact bodyPost_end (results_none rfl _ _ _) rfl ⟨rfl,lS (HO.out.aak (k:=1) dcd (.int .i64 2)) rfl,(Fr.refl F w).setCell (p:=⟨g,1,none⟩) (.inl hFg) _⟩
theorem xG {g c:Nat}(n:Int)(w:World):Calls Tryz.prog 245 #[.slice (some ⟨g,0,none⟩) 2 c,.int .i64 (-1),.int .i64 n] w fun e w' =>e= .returned (.tuple #[])∧w=w' :=by
 go_in
 go_wp2_with fail
 exact bodyPost_end (results_none rfl _ _ _) rfl ⟨rfl,rfl⟩
theorem aa6 (W:World):(Instr.makeSlice 44 (.int .i64 2) (.int .i64 2)).run Tryz.prog W= .ok (.slice (some ⟨W.heap.size,0,none⟩) 2 2) (W.alloc (.cells #[.int .i64 0,.int .i64 0] TIm)):=by kernel_rfl
theorem al4 (W:World):(Instr.makeSlice 166 (.int .i64 1) (.int .i64 1)).run Tryz.prog W= .ok (.slice (some ⟨W.heap.size,0,none⟩) 1 1) (W.alloc (.cells #[.bool false,.bool false,.int .i64 0,.int .i64 0,.int .i64 0,.int .i64 0,.int .i64 0,.int .i64 0,.int .i64 0,.int .i64 0,.int .i64 0,.int .i64 0] TTs)):=by kernel_rfl
theorem al5 (W:World):(Instr.makeSlice 167 (.int .i64 2) (.int .i64 2)).run Tryz.prog W= .ok (.slice (some ⟨W.heap.size,0,none⟩) 2 2) (W.alloc (.cells #[.int .i64 0,.int .i64 0,.int .i64 0,.int .i64 0,.int .i64 0,.int .i64 0,.int .i64 0,.int .i64 0] TCs)):=by kernel_rfl
end
section
set_option linter.unusedSimpArgs false
variable {w w' :World}{F G:Nat→Prop}
theorem zq {V:World}{g:Nat}{t:TypeId}{a0 a1 a2 a3 a4 a5 a6:Value}(h:Blk V g t #[a0,a1,a2,a3,a4,a5,a6]):V.cell? ⟨g,0,none⟩=some a0∧V.cell? ⟨g,1,none⟩=some a1∧V.cell? ⟨g,2,none⟩=some a2∧V.cell? ⟨g,3,none⟩=some a3∧V.cell? ⟨g,4,none⟩=some a4∧V.cell? ⟨g,5,none⟩=some a5∧V.cell? ⟨g,6,none⟩=some a6:=⟨h.cell 0,h.cell 1,h.cell 2,h.cell 3,h.cell 4,h.cell 5,h.cell 6⟩
set_option maxHeartbeats 8000000 in
theorem vJ {bz cz bc cc bt ct bv cv br cr bo co st kt sc kc:Nat}(hc:eB w F ⟨bz,cz,bc,cc,bt,ct,bv,cv,br,cr,bo,co⟩)(hs:eD w G ⟨st,kt,sc,kc⟩ 1):Calls Tryz.prog 198 #[.agg #[.int .i64 2,.slice (some ⟨bz,0,none⟩) 2 cz,.slice (some ⟨bc,0,none⟩) 2 cc,.slice (some ⟨bt,0,none⟩) 1 ct,.slice (some ⟨bv,0,none⟩) 1 cv,.slice (some ⟨br,0,none⟩) 1 cr,.slice (some ⟨bo,0,none⟩) 1 co,.int .i64 1,.int .i64 20,.int .i64 0],.agg #[.int .i64 0,.int .i64 1,.slice (some ⟨st,0,none⟩) 1 kt,.slice (some ⟨sc,0,none⟩) 2 kc,.int .i64 1,.int .i64 0,.int .i64 0,.int .i64 0]] w fun e w' =>∃b c',e= .returned (.slice (some ⟨b,0,none⟩) 2 c')∧aA w' (fun i=>w.heap.size≤i) TIm 1 (.slice (some ⟨b,0,none⟩) 2 c') 2 [.int .i64 5,.int .i64 2]∧Fr No w w' :=by
 have hlc:=hc.lts;have hrt:=fun V (hV:Fr No w V)=>(hc.au hV).t.cells dcd;have hls:=hs.lts;have hrT:=fun V (hV:Fr No w V)=>(hs.au hV).t.cells dcd;have hcx:=fun V (hV:Fr No w V)=>hc.au hV;have hsx:=fun V (hV:Fr No w V)=>hs.au hV;clear hc hs;simp only at hlc;simp only at hls;obtain ⟨g1,w1,hg1,hw1,fa1,hz1,b1⟩:=mk1 w #[.int .i64 2,.slice (some ⟨bz,0,none⟩) 2 cz,.slice (some ⟨bc,0,none⟩) 2 cc,.slice (some ⟨bt,0,none⟩) 1 ct,.slice (some ⟨bv,0,none⟩) 1 cv,.slice (some ⟨br,0,none⟩) 1 cr,.slice (some ⟨bo,0,none⟩) 1 co,.int .i64 1,.int .i64 20,.int .i64 0] TCf;have FB1:Fr No w w1:=fa1;obtain ⟨g2,w2,hg2,hw2,fa2,hz2,b2⟩:=mk1 w1 #[.int .i64 0,.int .i64 1,.slice (some ⟨st,0,none⟩) 1 kt,.slice (some ⟨sc,0,none⟩) 2 kc,.int .i64 1,.int .i64 0,.int .i64 0,.int .i64 0] TSg;replace b1:=b1.fr fa2 id;have FB2:Fr No w w2:=FB1.ah fa2;have hal:∀V,Fr No w2 V→V.cell? ⟨g1,0,none⟩=some (.int .i64 2)∧V.cell? ⟨g1,1,none⟩=some (.slice (some ⟨bz,0,none⟩) 2 cz)∧V.cell? ⟨g1,2,none⟩=some (.slice (some ⟨bc,0,none⟩) 2 cc)∧V.cell? ⟨g1,3,none⟩=some (.slice (some ⟨bt,0,none⟩) 1 ct)∧V.cell? ⟨g1,4,none⟩=some (.slice (some ⟨bv,0,none⟩) 1 cv)∧V.cell? ⟨g1,5,none⟩=some (.slice (some ⟨br,0,none⟩) 1 cr)∧V.cell? ⟨g1,6,none⟩=some (.slice (some ⟨bo,0,none⟩) 1 co)∧V.cell? ⟨g1,7,none⟩=some (.int .i64 1)∧V.cell? ⟨g1,8,none⟩=some (.int .i64 20)∧V.cell? ⟨g1,9,none⟩=some (.int .i64 0)∧V.cell? ⟨g2,0,none⟩=some (.int .i64 0)∧V.cell? ⟨g2,1,none⟩=some (.int .i64 1)∧V.cell? ⟨g2,2,none⟩=some (.slice (some ⟨st,0,none⟩) 1 kt)∧V.cell? ⟨g2,3,none⟩=some (.slice (some ⟨sc,0,none⟩) 2 kc)∧V.cell? ⟨g2,4,none⟩=some (.int .i64 1)∧V.cell? ⟨g2,5,none⟩=some (.int .i64 0)∧V.cell? ⟨g2,6,none⟩=some (.int .i64 0)∧V.cell? ⟨g2,7,none⟩=some (.int .i64 0)∧V.cell? ⟨bt,0,none⟩=some (.int .i64 5)∧V.cell? ⟨bt,1,none⟩=some (.int .i64 2)∧V.cell? ⟨bt,2,none⟩=some (.int .i64 0)∧V.cell? ⟨bt,3,none⟩=some (.int .i64 0)∧V.cell? ⟨bt,4,none⟩=some (.int .i64 3)∧V.cell? ⟨bt,5,none⟩=some (.int .i64 0)∧V.cell? ⟨bt,6,none⟩=some (.bool false)∧V.cell? ⟨st,0,none⟩=some (.bool true)∧V.cell? ⟨st,1,none⟩=some (.bool false)∧V.cell? ⟨st,2,none⟩=some (.int .i64 0)∧V.cell? ⟨st,3,none⟩=some (.int .i64 1)∧V.cell? ⟨st,4,none⟩=some (.int .i64 (-1))∧V.cell? ⟨st,5,none⟩=some (.int .i64 (-1))∧V.cell? ⟨st,6,none⟩=some (.int .i64 0)∧V.cell? ⟨st,7,none⟩=some (.int .i64 (-1))∧V.cell? ⟨st,8,none⟩=some (.int .i64 0)∧V.cell? ⟨st,9,none⟩=some (.int .i64 0)∧V.cell? ⟨st,10,none⟩=some (.int .i64 0)∧V.cell? ⟨st,11,none⟩=some (.int .i64 0):=fun V hV=>⟨(b1.fr hV id).cell 0,(b1.fr hV id).cell 1,(b1.fr hV id).cell 2,(b1.fr hV id).cell 3,(b1.fr hV id).cell 4,(b1.fr hV id).cell 5,(b1.fr hV id).cell 6,(b1.fr hV id).cell 7,(b1.fr hV id).cell 8,(b1.fr hV id).cell 9,(b2.fr hV id).cell 0,(b2.fr hV id).cell 1,(b2.fr hV id).cell 2,(b2.fr hV id).cell 3,(b2.fr hV id).cell 4,(b2.fr hV id).cell 5,(b2.fr hV id).cell 6,(b2.fr hV id).cell 7,(hrt V (FB2.ah hV)).2.2 0 dcd,(hrt V (FB2.ah hV)).2.2 1 dcd,(hrt V (FB2.ah hV)).2.2 2 dcd,(hrt V (FB2.ah hV)).2.2 3 dcd,(hrt V (FB2.ah hV)).2.2 4 dcd,(hrt V (FB2.ah hV)).2.2 5 dcd,(hrt V (FB2.ah hV)).2.2 6 dcd,(hrT V (FB2.ah hV)).2.2 0 dcd,(hrT V (FB2.ah hV)).2.2 1 dcd,(hrT V (FB2.ah hV)).2.2 2 dcd,(hrT V (FB2.ah hV)).2.2 3 dcd,(hrT V (FB2.ah hV)).2.2 4 dcd,(hrT V (FB2.ah hV)).2.2 5 dcd,(hrT V (FB2.ah hV)).2.2 6 dcd,(hrT V (FB2.ah hV)).2.2 7 dcd,(hrT V (FB2.ah hV)).2.2 8 dcd,(hrT V (FB2.ah hV)).2.2 9 dcd,(hrT V (FB2.ah hV)).2.2 10 dcd,(hrT V (FB2.ah hV)).2.2 11 dcd⟩
 have HAL:=O hal;have fP:g1<w2.heap.size:=b1.lt;have kg:g2<w2.heap.size:=b2.lt;have jQ:w.heap.size≤g1:=by omega
 have hlt1:g1<g2:=by omega
 have hsB:w.heap.size≤w2.heap.size:=FB2.size;obtain ⟨FB,HCX,HSX,B1_,B2_⟩:=jq FB2 hcx hsx b1 b2;have he2:w.heap.size+1=g2:=by omega
 clear hal fa1 fa2 b1 b2 FB1 FB2 hrt hcx hrT hsx;obtain ⟨HW1,HG1,HZ1,HW2,HG2,HZ2,HE2⟩:=jo hw1 hg1 hz1 hw2 hg2 hz2 he2;clear he2 hz2 hg2 hw2 hz1 hg1 hw1
 go_in
 go_upto_region 1 with fail
 rw [←HW1.out];rw [←HW2.out]
 try rw [HE2.out]
 try rw [←HG1.out]
 clear HW1 HG1 HZ1 HW2 HG2 HZ2 HE2;obtain ⟨q0_,q1_,q2_,q3_,q4_,q5_,q6_,q7_,q8_,q9_,bJ,bI,bG,bH,bM,bL,bO,bU,dh,dB,dF,dD,dQ,dP,dO,dV,dU,fq,eZ,eY,eX,eU,eT,eP,eO,iy,iw⟩:=HAL.out _ (Fr.refl _ _);obtain ⟨gL,hgL⟩:∃g,g=w2.heap.size:=⟨_,rfl⟩;have f3:Fr No w2 (w2.alloc (.cells #[.int .i64 0,.int .i64 0] TIm)):=aj _ _;have o3:aA (w2.alloc (.cells #[.int .i64 0,.int .i64 0] TIm)) (fun b=>b=gL) TIm 1 (.slice (some ⟨gL,0,none⟩) 2 2) 2 [.int .i64 0,.int .i64 0]:=by rw [hgL];exact gY (Blk.new _ _ _) rfl dcd
 have aqt:g1<gL∧g2<gL∧bt<gL∧st<gL:=by omega
 have hgw:w.heap.size≤gL:=by omega
 obtain ⟨F3,O3,HG⟩:=bC f3 o3 hgL;clear f3 o3 hgL;have hmk:=aa6
 go_wp2_with fail
 rw [←HG.out];refine (sS _ _).mono ?_;rintro e v ⟨rfl,f_⟩;have f:Fr No w2 v:=F3.out.ah f_;have O4:=O (O3.out.au f_);have hlv:gL<v.heap.size:=(O4.out.cells dcd).1;clear f_ O3 F3;clear q0_ q1_ q2_ q3_ q4_ q5_ q6_ q7_ q8_ q9_ bJ bI bG bH bM bL bO bU dh dB dF dD dQ dP dO dV dU fq eZ eY eX eU eT eP eO iy iw;obtain ⟨q0_,q1_,q2_,q3_,q4_,q5_,q6_,q7_,q8_,q9_,bJ,bI,bG,bH,bM,bL,bO,bU,dh,dB,dF,dD,dQ,dP,dO,dV,dU,fq,eZ,eY,eX,eU,eT,eP,eO,iy,iw⟩:=HAL.out _ f
 go_wp2_with fail
 clear q0_ q1_ q2_ q3_ q4_ q5_ q6_ q7_ q8_ q9_ bJ bI bG bH bM bL bO bU dh dB dF dD dQ dP dO dV dU fq eZ eY eX eU eT eP eO iy iw;have aby:∀V,Fr (fun b=>b=gL) v V→V.cell? ⟨g1,0,none⟩=some (.int .i64 2)∧V.cell? ⟨g1,1,none⟩=some (.slice (some ⟨bz,0,none⟩) 2 cz)∧V.cell? ⟨g1,2,none⟩=some (.slice (some ⟨bc,0,none⟩) 2 cc)∧V.cell? ⟨g1,3,none⟩=some (.slice (some ⟨bt,0,none⟩) 1 ct)∧V.cell? ⟨g1,4,none⟩=some (.slice (some ⟨bv,0,none⟩) 1 cv)∧V.cell? ⟨g1,5,none⟩=some (.slice (some ⟨br,0,none⟩) 1 cr)∧V.cell? ⟨g1,6,none⟩=some (.slice (some ⟨bo,0,none⟩) 1 co)∧V.cell? ⟨g1,7,none⟩=some (.int .i64 1)∧V.cell? ⟨g1,8,none⟩=some (.int .i64 20)∧V.cell? ⟨g1,9,none⟩=some (.int .i64 0)∧V.cell? ⟨g2,0,none⟩=some (.int .i64 0)∧V.cell? ⟨g2,1,none⟩=some (.int .i64 1)∧V.cell? ⟨g2,2,none⟩=some (.slice (some ⟨st,0,none⟩) 1 kt)∧V.cell? ⟨g2,3,none⟩=some (.slice (some ⟨sc,0,none⟩) 2 kc)∧V.cell? ⟨g2,4,none⟩=some (.int .i64 1)∧V.cell? ⟨g2,5,none⟩=some (.int .i64 0)∧V.cell? ⟨g2,6,none⟩=some (.int .i64 0)∧V.cell? ⟨g2,7,none⟩=some (.int .i64 0)∧V.cell? ⟨bt,0,none⟩=some (.int .i64 5)∧V.cell? ⟨bt,1,none⟩=some (.int .i64 2)∧V.cell? ⟨bt,2,none⟩=some (.int .i64 0)∧V.cell? ⟨bt,3,none⟩=some (.int .i64 0)∧V.cell? ⟨bt,4,none⟩=some (.int .i64 3)∧V.cell? ⟨bt,5,none⟩=some (.int .i64 0)∧V.cell? ⟨bt,6,none⟩=some (.bool false)∧V.cell? ⟨st,0,none⟩=some (.bool true)∧V.cell? ⟨st,1,none⟩=some (.bool false)∧V.cell? ⟨st,2,none⟩=some (.int .i64 0)∧V.cell? ⟨st,3,none⟩=some (.int .i64 1)∧V.cell? ⟨st,4,none⟩=some (.int .i64 (-1))∧V.cell? ⟨st,5,none⟩=some (.int .i64 (-1))∧V.cell? ⟨st,6,none⟩=some (.int .i64 0)∧V.cell? ⟨st,7,none⟩=some (.int .i64 (-1))∧V.cell? ⟨st,8,none⟩=some (.int .i64 0)∧V.cell? ⟨st,9,none⟩=some (.int .i64 0)∧V.cell? ⟨st,10,none⟩=some (.int .i64 0)∧V.cell? ⟨st,11,none⟩=some (.int .i64 0):=fun V hV=>by
  obtain ⟨q0_,q1_,q2_,q3_,q4_,q5_,q6_,q7_,q8_,q9_,bJ,bI,bG,bH,bM,bL,bO,bU,dh,dB,dF,dD,dQ,dP,dO,dV,dU,fq,eZ,eY,eX,eU,eT,eP,eO,iy,iw⟩:=HAL.out v f;exact ⟨(hV.cell (p:=⟨g1,0,none⟩) (show g1<v.heap.size by omega) (show ¬g1=gL by omega)).trans q0_,(hV.cell (p:=⟨g1,1,none⟩) (show g1<v.heap.size by omega) (show ¬g1=gL by omega)).trans q1_,(hV.cell (p:=⟨g1,2,none⟩) (show g1<v.heap.size by omega) (show ¬g1=gL by omega)).trans q2_,(hV.cell (p:=⟨g1,3,none⟩) (show g1<v.heap.size by omega) (show ¬g1=gL by omega)).trans q3_,(hV.cell (p:=⟨g1,4,none⟩) (show g1<v.heap.size by omega) (show ¬g1=gL by omega)).trans q4_,(hV.cell (p:=⟨g1,5,none⟩) (show g1<v.heap.size by omega) (show ¬g1=gL by omega)).trans q5_,(hV.cell (p:=⟨g1,6,none⟩) (show g1<v.heap.size by omega) (show ¬g1=gL by omega)).trans q6_,(hV.cell (p:=⟨g1,7,none⟩) (show g1<v.heap.size by omega) (show ¬g1=gL by omega)).trans q7_,(hV.cell (p:=⟨g1,8,none⟩) (show g1<v.heap.size by omega) (show ¬g1=gL by omega)).trans q8_,(hV.cell (p:=⟨g1,9,none⟩) (show g1<v.heap.size by omega) (show ¬g1=gL by omega)).trans q9_,(hV.cell (p:=⟨g2,0,none⟩) (show g2<v.heap.size by omega) (show ¬g2=gL by omega)).trans bJ,(hV.cell (p:=⟨g2,1,none⟩) (show g2<v.heap.size by omega) (show ¬g2=gL by omega)).trans bI,(hV.cell (p:=⟨g2,2,none⟩) (show g2<v.heap.size by omega) (show ¬g2=gL by omega)).trans bG,(hV.cell (p:=⟨g2,3,none⟩) (show g2<v.heap.size by omega) (show ¬g2=gL by omega)).trans bH,(hV.cell (p:=⟨g2,4,none⟩) (show g2<v.heap.size by omega) (show ¬g2=gL by omega)).trans bM,(hV.cell (p:=⟨g2,5,none⟩) (show g2<v.heap.size by omega) (show ¬g2=gL by omega)).trans bL,(hV.cell (p:=⟨g2,6,none⟩) (show g2<v.heap.size by omega) (show ¬g2=gL by omega)).trans bO,(hV.cell (p:=⟨g2,7,none⟩) (show g2<v.heap.size by omega) (show ¬g2=gL by omega)).trans bU,(hV.cell (p:=⟨bt,0,none⟩) (show bt<v.heap.size by omega) (show ¬bt=gL by omega)).trans dh,(hV.cell (p:=⟨bt,1,none⟩) (show bt<v.heap.size by omega) (show ¬bt=gL by omega)).trans dB,(hV.cell (p:=⟨bt,2,none⟩) (show bt<v.heap.size by omega) (show ¬bt=gL by omega)).trans dF,(hV.cell (p:=⟨bt,3,none⟩) (show bt<v.heap.size by omega) (show ¬bt=gL by omega)).trans dD,(hV.cell (p:=⟨bt,4,none⟩) (show bt<v.heap.size by omega) (show ¬bt=gL by omega)).trans dQ,(hV.cell (p:=⟨bt,5,none⟩) (show bt<v.heap.size by omega) (show ¬bt=gL by omega)).trans dP,(hV.cell (p:=⟨bt,6,none⟩) (show bt<v.heap.size by omega) (show ¬bt=gL by omega)).trans dO,(hV.cell (p:=⟨st,0,none⟩) (show st<v.heap.size by omega) (show ¬st=gL by omega)).trans dV,(hV.cell (p:=⟨st,1,none⟩) (show st<v.heap.size by omega) (show ¬st=gL by omega)).trans dU,(hV.cell (p:=⟨st,2,none⟩) (show st<v.heap.size by omega) (show ¬st=gL by omega)).trans fq,(hV.cell (p:=⟨st,3,none⟩) (show st<v.heap.size by omega) (show ¬st=gL by omega)).trans eZ,(hV.cell (p:=⟨st,4,none⟩) (show st<v.heap.size by omega) (show ¬st=gL by omega)).trans eY,(hV.cell (p:=⟨st,5,none⟩) (show st<v.heap.size by omega) (show ¬st=gL by omega)).trans eX,(hV.cell (p:=⟨st,6,none⟩) (show st<v.heap.size by omega) (show ¬st=gL by omega)).trans eU,(hV.cell (p:=⟨st,7,none⟩) (show st<v.heap.size by omega) (show ¬st=gL by omega)).trans eT,(hV.cell (p:=⟨st,8,none⟩) (show st<v.heap.size by omega) (show ¬st=gL by omega)).trans eP,(hV.cell (p:=⟨st,9,none⟩) (show st<v.heap.size by omega) (show ¬st=gL by omega)).trans eO,(hV.cell (p:=⟨st,10,none⟩) (show st<v.heap.size by omega) (show ¬st=gL by omega)).trans iy,(hV.cell (p:=⟨st,11,none⟩) (show st<v.heap.size by omega) (show ¬st=gL by omega)).trans iw⟩
 have akg:=O aby;clear aby
 go_loopw [16] (fun i wr=>∃k:Nat,k≤1∧i= .int .i64 k∧aA wr (fun b=>b=gL) TIm 1 (.slice (some ⟨gL,0,none⟩) 2 2) 2 (if k=0 then [.int .i64 0,.int .i64 0] else [.int .i64 5,.int .i64 2])∧Fr (fun b=>b=gL) v wr) (fun i _=>1-(intOf i).toNat)
 case atStart=>exact ⟨0,Nat.zero_le _,rfl,O4.out,Fr.refl _ _⟩
 obtain ⟨k,hk,rfl,ho,hf⟩:=hrel;have awj:v.heap.size≤wr.heap.size:=hf.size;obtain rfl|rfl:k=0∨k=1:=by omega
 ·obtain ⟨q0_,q1_,q2_,q3_,q4_,q5_,q6_,q7_,q8_,q9_,bJ,bI,bG,bH,bM,bL,bO,bU,dh,dB,dF,dD,dQ,dP,dO,dV,dU,fq,eZ,eY,eX,eU,eT,eP,eO,iy,iw⟩:=akg.out _ hf
  obtain ⟨HO,HF⟩:=aN ho hf;clear ho;have am6:=fun V (hV:Fr (fun b=>b=gL) wr V)=>akg.out V (HF.out.trans hV fun b hb=> .inl hb);have asb:=O am6;clear am6 hf;have uQ:∀V,Fr (fun b=>b=gL) wr V→V.cell? ⟨g1,3,none⟩=some (.slice (some ⟨bt,0,none⟩) 1 ct)∧V.cell? ⟨g2,2,none⟩=some (.slice (some ⟨st,0,none⟩) 1 kt)∧V.cell? ⟨bt,0,none⟩=some (.int .i64 5)∧V.cell? ⟨bt,1,none⟩=some (.int .i64 2)∧V.cell? ⟨bt,2,none⟩=some (.int .i64 0)∧V.cell? ⟨bt,3,none⟩=some (.int .i64 0)∧V.cell? ⟨bt,4,none⟩=some (.int .i64 3)∧V.cell? ⟨bt,5,none⟩=some (.int .i64 0)∧V.cell? ⟨bt,6,none⟩=some (.bool false)∧V.cell? ⟨st,0,none⟩=some (.bool true)∧V.cell? ⟨st,1,none⟩=some (.bool false)∧V.cell? ⟨st,2,none⟩=some (.int .i64 0)∧V.cell? ⟨st,3,none⟩=some (.int .i64 1)∧V.cell? ⟨st,4,none⟩=some (.int .i64 (-1))∧V.cell? ⟨st,5,none⟩=some (.int .i64 (-1))∧V.cell? ⟨st,6,none⟩=some (.int .i64 0)∧V.cell? ⟨st,7,none⟩=some (.int .i64 (-1))∧V.cell? ⟨st,8,none⟩=some (.int .i64 0)∧V.cell? ⟨st,9,none⟩=some (.int .i64 0)∧V.cell? ⟨st,10,none⟩=some (.int .i64 0)∧V.cell? ⟨st,11,none⟩=some (.int .i64 0):=fun V hV=>by
   obtain ⟨q0_,q1_,q2_,q3_,q4_,q5_,q6_,q7_,q8_,q9_,bJ,bI,bG,bH,bM,bL,bO,bU,dh,dB,dF,dD,dQ,dP,dO,dV,dU,fq,eZ,eY,eX,eU,eT,eP,eO,iy,iw⟩:=asb.out V hV;exact ⟨q3_,bG,dh,dB,dF,dD,dQ,dP,dO,dV,dU,fq,eZ,eY,eX,eU,eT,eP,eO,iy,iw⟩
  have akf:=O uQ;clear uQ
  go_upto_region 5 with fail
  clear q0_ q1_ q2_ q4_ q5_ q6_ q7_ q8_ q9_ bJ bI bH bM bL bO bU;have hs9:wr.heap.size≤wr.heap.size:=Nat.le_refl _
  go_cut [7,8] from 19 to 28 (fun x y wx=>∃ga gb,x= .pointer (some ⟨ga,0,none⟩)∧y= .pointer (some ⟨gb,0,none⟩)∧wr.heap.size≤ga∧wr.heap.size≤gb∧Blk wx ga TTn #[.int .i64 5,.int .i64 2,.int .i64 0,.int .i64 0,.int .i64 3,.int .i64 0,.bool false]∧Blk wx gb TTs #[.bool true,.bool false,.int .i64 0,.int .i64 1,.int .i64 (-1),.int .i64 (-1),.int .i64 0,.int .i64 (-1),.int .i64 0,.int .i64 0,.int .i64 0,.int .i64 0]∧Fr No wr wx)
  case first=>
   go_region_held3 (fun V=>V.cell? ⟨g1,3,none⟩=some (.slice (some ⟨bt,0,none⟩) 1 ct)∧V.cell? ⟨g2,2,none⟩=some (.slice (some ⟨st,0,none⟩) 1 kt)∧V.cell? ⟨bt,0,none⟩=some (.int .i64 5)∧V.cell? ⟨bt,1,none⟩=some (.int .i64 2)∧V.cell? ⟨bt,2,none⟩=some (.int .i64 0)∧V.cell? ⟨bt,3,none⟩=some (.int .i64 0)∧V.cell? ⟨bt,4,none⟩=some (.int .i64 3)∧V.cell? ⟨bt,5,none⟩=some (.int .i64 0)∧V.cell? ⟨bt,6,none⟩=some (.bool false)∧V.cell? ⟨st,0,none⟩=some (.bool true)∧V.cell? ⟨st,1,none⟩=some (.bool false)∧V.cell? ⟨st,2,none⟩=some (.int .i64 0)∧V.cell? ⟨st,3,none⟩=some (.int .i64 1)∧V.cell? ⟨st,4,none⟩=some (.int .i64 (-1))∧V.cell? ⟨st,5,none⟩=some (.int .i64 (-1))∧V.cell? ⟨st,6,none⟩=some (.int .i64 0)∧V.cell? ⟨st,7,none⟩=some (.int .i64 (-1))∧V.cell? ⟨st,8,none⟩=some (.int .i64 0)∧V.cell? ⟨st,9,none⟩=some (.int .i64 0)∧V.cell? ⟨st,10,none⟩=some (.int .i64 0)∧V.cell? ⟨st,11,none⟩=some (.int .i64 0)) ((refine akf.out _ ?_;exact (by repeat (with_reducible first|assumption|exact Fr.refl _ _|refine Fr.alloc ?_ _|refine Fr.drew ?_|refine Fr.setCell ?_ (.inr (by assumption)) _)))) (fail)
   all_goals generalize hW:World.drew (World.alloc (World.alloc wr _) _)=W4
   all_goals obtain ⟨ba,bb,f4⟩:=arh hW
   all_goals clear hW
   all_goals go_wp2_with fail
   all_goals go_meet
   ·exact ⟨_,_,rfl,rfl,Nat.le_refl _,Nat.le_succ _,ba,bb,f4⟩
   ·exact ⟨_,_,rfl,rfl,Nat.le_succ _,Nat.le_refl _,bb,ba,f4⟩
  clear q3_ bG dh dB dF dD dQ dP dO dV dU fq eZ eY eX eU eT eP eO iy iw;obtain ⟨ga,gb,rfl,rfl,hga,hgb,ba,bb,f4⟩:=hcut;have hba:∀V,Fr (fun b=>b=gL) wc V→Blk V ga TTn #[.int .i64 5,.int .i64 2,.int .i64 0,.int .i64 0,.int .i64 3,.int .i64 0,.bool false]∧Blk V gb TTs #[.bool true,.bool false,.int .i64 0,.int .i64 1,.int .i64 (-1),.int .i64 (-1),.int .i64 0,.int .i64 (-1),.int .i64 0,.int .i64 0,.int .i64 0,.int .i64 0]:=fun V hV=>⟨ba.fr hV (show ¬ga=gL by omega),bb.fr hV (show ¬gb=gL by omega)⟩;obtain ⟨HBA,O5,F5⟩:=bC hba (HO.out.au f4) ((HF.out.bR f4));clear hba ba bb f4 HO HF;obtain ⟨ba,bb⟩:=HBA.out _ (Fr.refl _ _);obtain ⟨x0,x1,x2,x3,x4,x5,x6⟩:=zq ba;obtain ⟨y0,y1,y2,y3,y4,y5,y6,y7,y8,y9,y10,y11⟩:=nV bb;clear ba bb
  go_wp2_with fail
  refine (vN _).mono ?_;rintro e v1 ⟨rfl,f1⟩;clear x0 x1 x2 x3 x4 x5 x6 y0 y1 y2 y3 y4 y5 y6 y7 y8 y9 y10 y11;have g1_:Fr (fun b=>b=gL) wc v1:=f1.mono fun _ h=>h.elim;have O6:=O (O5.out.au f1);clear f1 O5;obtain ⟨ba,bb⟩:=HBA.out _ g1_;obtain ⟨x0,x1,x2,x3,x4,x5,x6⟩:=zq ba;obtain ⟨y0,y1,y2,y3,y4,y5,y6,y7,y8,y9,y10,y11⟩:=nV bb;clear ba bb
  go_wp2_with fail
  refine (anv O6.out).mono ?_;rintro e v2 ⟨rfl,o7,f2⟩;clear x0 x1 x2 x3 x4 x5 x6 y0 y1 y2 y3 y4 y5 y6 y7 y8 y9 y10 y11;have g2_:Fr (fun b=>b=gL) wc v2:=g1_.trans f2 fun b hb=> .inl hb;have O7:=O o7;clear o7 f2 O6 g1_;obtain ⟨ba,bb⟩:=HBA.out _ g2_;obtain ⟨x0,x1,x2,x3,x4,x5,x6⟩:=zq ba;obtain ⟨y0,y1,y2,y3,y4,y5,y6,y7,y8,y9,y10,y11⟩:=nV bb;clear ba bb
  go_wp2_with fail
  refine (xG _ _).mono ?_;rintro e w5 ⟨rfl,rfl⟩
  go_wp2_with fail
  refine (anu O7.out).mono ?_;rintro e v3 ⟨rfl,o8,f3⟩;clear x0 x1 x2 x3 x4 x5 x6 y0 y1 y2 y3 y4 y5 y6 y7 y8 y9 y10 y11;have g3_:Fr (fun b=>b=gL) wc v3:=g2_.trans f3 fun b hb=> .inl hb;have O8:=O o8;clear o8 f3 O7 g2_;obtain ⟨ba,bb⟩:=HBA.out _ g3_;obtain ⟨x0,x1,x2,x3,x4,x5,x6⟩:=zq ba;obtain ⟨y0,y1,y2,y3,y4,y5,y6,y7,y8,y9,y10,y11⟩:=nV bb;clear ba bb
  go_wp2_with fail
  refine (xG _ _).mono ?_;rintro e w5 ⟨rfl,rfl⟩
  go_wp2_with fail
  go_roundw
  case rel=>exact ⟨1,by decide,rfl,O8.out,F5.out.trans g3_ fun b hb=> .inl hb⟩
  case measure=>simp [intOf]
 ·obtain ⟨q0_,q1_,q2_,q3_,q4_,q5_,q6_,q7_,q8_,q9_,bJ,bI,bG,bH,bM,bL,bO,bU,dh,dB,dF,dD,dQ,dP,dO,dV,dU,fq,eZ,eY,eX,eU,eT,eP,eO,iy,iw⟩:=akg.out _ hf
  go_wp2_with fail
  go_ret
  exact ⟨gL,2,rfl,ho.mono fun b hb=>by have hb:b=gL:=hb;omega,(FB.out.ah f).aD hf fun b hb=>by have hb:b=gL:=hb;omega⟩
set_option maxHeartbeats 8000000 in
theorem vI {bz cz bc cc bt ct bv cv br cr bo co st kt sc kc:Nat}(hc:eB w F ⟨bz,cz,bc,cc,bt,ct,bv,cv,br,cr,bo,co⟩)(hs:eD w G ⟨st,kt,sc,kc⟩ 2):Calls Tryz.prog 198 #[.agg #[.int .i64 2,.slice (some ⟨bz,0,none⟩) 2 cz,.slice (some ⟨bc,0,none⟩) 2 cc,.slice (some ⟨bt,0,none⟩) 1 ct,.slice (some ⟨bv,0,none⟩) 1 cv,.slice (some ⟨br,0,none⟩) 1 cr,.slice (some ⟨bo,0,none⟩) 1 co,.int .i64 1,.int .i64 20,.int .i64 0],.agg #[.int .i64 0,.int .i64 2,.slice (some ⟨st,0,none⟩) 1 kt,.slice (some ⟨sc,0,none⟩) 2 kc,.int .i64 1,.int .i64 0,.int .i64 0,.int .i64 0]] w fun e w' =>∃b c',e= .returned (.slice (some ⟨b,0,none⟩) 2 c')∧aA w' (fun i=>w.heap.size≤i) TIm 1 (.slice (some ⟨b,0,none⟩) 2 c') 2 [.int .i64 5,.int .i64 2]∧Fr No w w' :=by
 have hlc:=hc.lts;have hrt:=fun V (hV:Fr No w V)=>(hc.au hV).t.cells dcd;have hls:=hs.lts;have hrT:=fun V (hV:Fr No w V)=>(hs.au hV).t.cells dcd;have hcx:=fun V (hV:Fr No w V)=>hc.au hV;have hsx:=fun V (hV:Fr No w V)=>hs.au hV;clear hc hs;simp only at hlc;simp only at hls;obtain ⟨g1,w1,hg1,hw1,fa1,hz1,b1⟩:=mk1 w #[.int .i64 2,.slice (some ⟨bz,0,none⟩) 2 cz,.slice (some ⟨bc,0,none⟩) 2 cc,.slice (some ⟨bt,0,none⟩) 1 ct,.slice (some ⟨bv,0,none⟩) 1 cv,.slice (some ⟨br,0,none⟩) 1 cr,.slice (some ⟨bo,0,none⟩) 1 co,.int .i64 1,.int .i64 20,.int .i64 0] TCf;have FB1:Fr No w w1:=fa1;obtain ⟨g2,w2,hg2,hw2,fa2,hz2,b2⟩:=mk1 w1 #[.int .i64 0,.int .i64 2,.slice (some ⟨st,0,none⟩) 1 kt,.slice (some ⟨sc,0,none⟩) 2 kc,.int .i64 1,.int .i64 0,.int .i64 0,.int .i64 0] TSg;replace b1:=b1.fr fa2 id;have FB2:Fr No w w2:=FB1.ah fa2;have hal:∀V,Fr No w2 V→V.cell? ⟨g1,0,none⟩=some (.int .i64 2)∧V.cell? ⟨g1,1,none⟩=some (.slice (some ⟨bz,0,none⟩) 2 cz)∧V.cell? ⟨g1,2,none⟩=some (.slice (some ⟨bc,0,none⟩) 2 cc)∧V.cell? ⟨g1,3,none⟩=some (.slice (some ⟨bt,0,none⟩) 1 ct)∧V.cell? ⟨g1,4,none⟩=some (.slice (some ⟨bv,0,none⟩) 1 cv)∧V.cell? ⟨g1,5,none⟩=some (.slice (some ⟨br,0,none⟩) 1 cr)∧V.cell? ⟨g1,6,none⟩=some (.slice (some ⟨bo,0,none⟩) 1 co)∧V.cell? ⟨g1,7,none⟩=some (.int .i64 1)∧V.cell? ⟨g1,8,none⟩=some (.int .i64 20)∧V.cell? ⟨g1,9,none⟩=some (.int .i64 0)∧V.cell? ⟨g2,0,none⟩=some (.int .i64 0)∧V.cell? ⟨g2,1,none⟩=some (.int .i64 2)∧V.cell? ⟨g2,2,none⟩=some (.slice (some ⟨st,0,none⟩) 1 kt)∧V.cell? ⟨g2,3,none⟩=some (.slice (some ⟨sc,0,none⟩) 2 kc)∧V.cell? ⟨g2,4,none⟩=some (.int .i64 1)∧V.cell? ⟨g2,5,none⟩=some (.int .i64 0)∧V.cell? ⟨g2,6,none⟩=some (.int .i64 0)∧V.cell? ⟨g2,7,none⟩=some (.int .i64 0)∧V.cell? ⟨bt,0,none⟩=some (.int .i64 5)∧V.cell? ⟨bt,1,none⟩=some (.int .i64 2)∧V.cell? ⟨bt,2,none⟩=some (.int .i64 0)∧V.cell? ⟨bt,3,none⟩=some (.int .i64 0)∧V.cell? ⟨bt,4,none⟩=some (.int .i64 3)∧V.cell? ⟨bt,5,none⟩=some (.int .i64 0)∧V.cell? ⟨bt,6,none⟩=some (.bool false)∧V.cell? ⟨st,0,none⟩=some (.bool true)∧V.cell? ⟨st,1,none⟩=some (.bool false)∧V.cell? ⟨st,2,none⟩=some (.int .i64 0)∧V.cell? ⟨st,3,none⟩=some (.int .i64 1)∧V.cell? ⟨st,4,none⟩=some (.int .i64 (-1))∧V.cell? ⟨st,5,none⟩=some (.int .i64 (-1))∧V.cell? ⟨st,6,none⟩=some (.int .i64 1)∧V.cell? ⟨st,7,none⟩=some (.int .i64 0)∧V.cell? ⟨st,8,none⟩=some (.int .i64 1)∧V.cell? ⟨st,9,none⟩=some (.int .i64 0)∧V.cell? ⟨st,10,none⟩=some (.int .i64 0)∧V.cell? ⟨st,11,none⟩=some (.int .i64 20):=fun V hV=>⟨(b1.fr hV id).cell 0,(b1.fr hV id).cell 1,(b1.fr hV id).cell 2,(b1.fr hV id).cell 3,(b1.fr hV id).cell 4,(b1.fr hV id).cell 5,(b1.fr hV id).cell 6,(b1.fr hV id).cell 7,(b1.fr hV id).cell 8,(b1.fr hV id).cell 9,(b2.fr hV id).cell 0,(b2.fr hV id).cell 1,(b2.fr hV id).cell 2,(b2.fr hV id).cell 3,(b2.fr hV id).cell 4,(b2.fr hV id).cell 5,(b2.fr hV id).cell 6,(b2.fr hV id).cell 7,(hrt V (FB2.ah hV)).2.2 0 dcd,(hrt V (FB2.ah hV)).2.2 1 dcd,(hrt V (FB2.ah hV)).2.2 2 dcd,(hrt V (FB2.ah hV)).2.2 3 dcd,(hrt V (FB2.ah hV)).2.2 4 dcd,(hrt V (FB2.ah hV)).2.2 5 dcd,(hrt V (FB2.ah hV)).2.2 6 dcd,(hrT V (FB2.ah hV)).2.2 0 dcd,(hrT V (FB2.ah hV)).2.2 1 dcd,(hrT V (FB2.ah hV)).2.2 2 dcd,(hrT V (FB2.ah hV)).2.2 3 dcd,(hrT V (FB2.ah hV)).2.2 4 dcd,(hrT V (FB2.ah hV)).2.2 5 dcd,(hrT V (FB2.ah hV)).2.2 6 dcd,(hrT V (FB2.ah hV)).2.2 7 dcd,(hrT V (FB2.ah hV)).2.2 8 dcd,(hrT V (FB2.ah hV)).2.2 9 dcd,(hrT V (FB2.ah hV)).2.2 10 dcd,(hrT V (FB2.ah hV)).2.2 11 dcd⟩
 have HAL:=O hal;have fP:g1<w2.heap.size:=b1.lt;have kg:g2<w2.heap.size:=b2.lt;have jQ:w.heap.size≤g1:=by omega
 have hlt1:g1<g2:=by omega
 have hsB:w.heap.size≤w2.heap.size:=FB2.size;obtain ⟨FB,HCX,HSX,B1_,B2_⟩:=jq FB2 hcx hsx b1 b2;have he2:w.heap.size+1=g2:=by omega
 clear hal fa1 fa2 b1 b2 FB1 FB2 hrt hcx hrT hsx;obtain ⟨HW1,HG1,HZ1,HW2,HG2,HZ2,HE2⟩:=jo hw1 hg1 hz1 hw2 hg2 hz2 he2;clear he2 hz2 hg2 hw2 hz1 hg1 hw1
 go_in
 go_upto_region 1 with fail
 rw [←HW1.out];rw [←HW2.out]
 try rw [HE2.out]
 try rw [←HG1.out]
 clear HW1 HG1 HZ1 HW2 HG2 HZ2 HE2;obtain ⟨q0_,q1_,q2_,q3_,q4_,q5_,q6_,q7_,q8_,q9_,bJ,bI,bG,bH,bM,bL,bO,bU,dh,dB,dF,dD,dQ,dP,dO,dV,dU,fq,eZ,eY,eX,eU,eT,eP,eO,iy,iw⟩:=HAL.out _ (Fr.refl _ _);obtain ⟨gL,hgL⟩:∃g,g=w2.heap.size:=⟨_,rfl⟩;have f3:Fr No w2 (w2.alloc (.cells #[.int .i64 0,.int .i64 0] TIm)):=aj _ _;have o3:aA (w2.alloc (.cells #[.int .i64 0,.int .i64 0] TIm)) (fun b=>b=gL) TIm 1 (.slice (some ⟨gL,0,none⟩) 2 2) 2 [.int .i64 0,.int .i64 0]:=by rw [hgL];exact gY (Blk.new _ _ _) rfl dcd
 have aqt:g1<gL∧g2<gL∧bt<gL∧st<gL:=by omega
 have hgw:w.heap.size≤gL:=by omega
 obtain ⟨F3,O3,HG⟩:=bC f3 o3 hgL;clear f3 o3 hgL;have hmk:=aa6
 go_wp2_with fail
 rw [←HG.out];refine (sS _ _).mono ?_;rintro e v ⟨rfl,f_⟩;have f:Fr No w2 v:=F3.out.ah f_;have O4:=O (O3.out.au f_);have hlv:gL<v.heap.size:=(O4.out.cells dcd).1;clear f_ O3 F3;clear q0_ q1_ q2_ q3_ q4_ q5_ q6_ q7_ q8_ q9_ bJ bI bG bH bM bL bO bU dh dB dF dD dQ dP dO dV dU fq eZ eY eX eU eT eP eO iy iw;obtain ⟨q0_,q1_,q2_,q3_,q4_,q5_,q6_,q7_,q8_,q9_,bJ,bI,bG,bH,bM,bL,bO,bU,dh,dB,dF,dD,dQ,dP,dO,dV,dU,fq,eZ,eY,eX,eU,eT,eP,eO,iy,iw⟩:=HAL.out _ f
 go_wp2_with fail
 clear q0_ q1_ q2_ q3_ q4_ q5_ q6_ q7_ q8_ q9_ bJ bI bG bH bM bL bO bU dh dB dF dD dQ dP dO dV dU fq eZ eY eX eU eT eP eO iy iw;have aby:∀V,Fr (fun b=>b=gL) v V→V.cell? ⟨g1,0,none⟩=some (.int .i64 2)∧V.cell? ⟨g1,1,none⟩=some (.slice (some ⟨bz,0,none⟩) 2 cz)∧V.cell? ⟨g1,2,none⟩=some (.slice (some ⟨bc,0,none⟩) 2 cc)∧V.cell? ⟨g1,3,none⟩=some (.slice (some ⟨bt,0,none⟩) 1 ct)∧V.cell? ⟨g1,4,none⟩=some (.slice (some ⟨bv,0,none⟩) 1 cv)∧V.cell? ⟨g1,5,none⟩=some (.slice (some ⟨br,0,none⟩) 1 cr)∧V.cell? ⟨g1,6,none⟩=some (.slice (some ⟨bo,0,none⟩) 1 co)∧V.cell? ⟨g1,7,none⟩=some (.int .i64 1)∧V.cell? ⟨g1,8,none⟩=some (.int .i64 20)∧V.cell? ⟨g1,9,none⟩=some (.int .i64 0)∧V.cell? ⟨g2,0,none⟩=some (.int .i64 0)∧V.cell? ⟨g2,1,none⟩=some (.int .i64 2)∧V.cell? ⟨g2,2,none⟩=some (.slice (some ⟨st,0,none⟩) 1 kt)∧V.cell? ⟨g2,3,none⟩=some (.slice (some ⟨sc,0,none⟩) 2 kc)∧V.cell? ⟨g2,4,none⟩=some (.int .i64 1)∧V.cell? ⟨g2,5,none⟩=some (.int .i64 0)∧V.cell? ⟨g2,6,none⟩=some (.int .i64 0)∧V.cell? ⟨g2,7,none⟩=some (.int .i64 0)∧V.cell? ⟨bt,0,none⟩=some (.int .i64 5)∧V.cell? ⟨bt,1,none⟩=some (.int .i64 2)∧V.cell? ⟨bt,2,none⟩=some (.int .i64 0)∧V.cell? ⟨bt,3,none⟩=some (.int .i64 0)∧V.cell? ⟨bt,4,none⟩=some (.int .i64 3)∧V.cell? ⟨bt,5,none⟩=some (.int .i64 0)∧V.cell? ⟨bt,6,none⟩=some (.bool false)∧V.cell? ⟨st,0,none⟩=some (.bool true)∧V.cell? ⟨st,1,none⟩=some (.bool false)∧V.cell? ⟨st,2,none⟩=some (.int .i64 0)∧V.cell? ⟨st,3,none⟩=some (.int .i64 1)∧V.cell? ⟨st,4,none⟩=some (.int .i64 (-1))∧V.cell? ⟨st,5,none⟩=some (.int .i64 (-1))∧V.cell? ⟨st,6,none⟩=some (.int .i64 1)∧V.cell? ⟨st,7,none⟩=some (.int .i64 0)∧V.cell? ⟨st,8,none⟩=some (.int .i64 1)∧V.cell? ⟨st,9,none⟩=some (.int .i64 0)∧V.cell? ⟨st,10,none⟩=some (.int .i64 0)∧V.cell? ⟨st,11,none⟩=some (.int .i64 20):=fun V hV=>by
  obtain ⟨q0_,q1_,q2_,q3_,q4_,q5_,q6_,q7_,q8_,q9_,bJ,bI,bG,bH,bM,bL,bO,bU,dh,dB,dF,dD,dQ,dP,dO,dV,dU,fq,eZ,eY,eX,eU,eT,eP,eO,iy,iw⟩:=HAL.out v f;exact ⟨(hV.cell (p:=⟨g1,0,none⟩) (show g1<v.heap.size by omega) (show ¬g1=gL by omega)).trans q0_,(hV.cell (p:=⟨g1,1,none⟩) (show g1<v.heap.size by omega) (show ¬g1=gL by omega)).trans q1_,(hV.cell (p:=⟨g1,2,none⟩) (show g1<v.heap.size by omega) (show ¬g1=gL by omega)).trans q2_,(hV.cell (p:=⟨g1,3,none⟩) (show g1<v.heap.size by omega) (show ¬g1=gL by omega)).trans q3_,(hV.cell (p:=⟨g1,4,none⟩) (show g1<v.heap.size by omega) (show ¬g1=gL by omega)).trans q4_,(hV.cell (p:=⟨g1,5,none⟩) (show g1<v.heap.size by omega) (show ¬g1=gL by omega)).trans q5_,(hV.cell (p:=⟨g1,6,none⟩) (show g1<v.heap.size by omega) (show ¬g1=gL by omega)).trans q6_,(hV.cell (p:=⟨g1,7,none⟩) (show g1<v.heap.size by omega) (show ¬g1=gL by omega)).trans q7_,(hV.cell (p:=⟨g1,8,none⟩) (show g1<v.heap.size by omega) (show ¬g1=gL by omega)).trans q8_,(hV.cell (p:=⟨g1,9,none⟩) (show g1<v.heap.size by omega) (show ¬g1=gL by omega)).trans q9_,(hV.cell (p:=⟨g2,0,none⟩) (show g2<v.heap.size by omega) (show ¬g2=gL by omega)).trans bJ,(hV.cell (p:=⟨g2,1,none⟩) (show g2<v.heap.size by omega) (show ¬g2=gL by omega)).trans bI,(hV.cell (p:=⟨g2,2,none⟩) (show g2<v.heap.size by omega) (show ¬g2=gL by omega)).trans bG,(hV.cell (p:=⟨g2,3,none⟩) (show g2<v.heap.size by omega) (show ¬g2=gL by omega)).trans bH,(hV.cell (p:=⟨g2,4,none⟩) (show g2<v.heap.size by omega) (show ¬g2=gL by omega)).trans bM,(hV.cell (p:=⟨g2,5,none⟩) (show g2<v.heap.size by omega) (show ¬g2=gL by omega)).trans bL,(hV.cell (p:=⟨g2,6,none⟩) (show g2<v.heap.size by omega) (show ¬g2=gL by omega)).trans bO,(hV.cell (p:=⟨g2,7,none⟩) (show g2<v.heap.size by omega) (show ¬g2=gL by omega)).trans bU,(hV.cell (p:=⟨bt,0,none⟩) (show bt<v.heap.size by omega) (show ¬bt=gL by omega)).trans dh,(hV.cell (p:=⟨bt,1,none⟩) (show bt<v.heap.size by omega) (show ¬bt=gL by omega)).trans dB,(hV.cell (p:=⟨bt,2,none⟩) (show bt<v.heap.size by omega) (show ¬bt=gL by omega)).trans dF,(hV.cell (p:=⟨bt,3,none⟩) (show bt<v.heap.size by omega) (show ¬bt=gL by omega)).trans dD,(hV.cell (p:=⟨bt,4,none⟩) (show bt<v.heap.size by omega) (show ¬bt=gL by omega)).trans dQ,(hV.cell (p:=⟨bt,5,none⟩) (show bt<v.heap.size by omega) (show ¬bt=gL by omega)).trans dP,(hV.cell (p:=⟨bt,6,none⟩) (show bt<v.heap.size by omega) (show ¬bt=gL by omega)).trans dO,(hV.cell (p:=⟨st,0,none⟩) (show st<v.heap.size by omega) (show ¬st=gL by omega)).trans dV,(hV.cell (p:=⟨st,1,none⟩) (show st<v.heap.size by omega) (show ¬st=gL by omega)).trans dU,(hV.cell (p:=⟨st,2,none⟩) (show st<v.heap.size by omega) (show ¬st=gL by omega)).trans fq,(hV.cell (p:=⟨st,3,none⟩) (show st<v.heap.size by omega) (show ¬st=gL by omega)).trans eZ,(hV.cell (p:=⟨st,4,none⟩) (show st<v.heap.size by omega) (show ¬st=gL by omega)).trans eY,(hV.cell (p:=⟨st,5,none⟩) (show st<v.heap.size by omega) (show ¬st=gL by omega)).trans eX,(hV.cell (p:=⟨st,6,none⟩) (show st<v.heap.size by omega) (show ¬st=gL by omega)).trans eU,(hV.cell (p:=⟨st,7,none⟩) (show st<v.heap.size by omega) (show ¬st=gL by omega)).trans eT,(hV.cell (p:=⟨st,8,none⟩) (show st<v.heap.size by omega) (show ¬st=gL by omega)).trans eP,(hV.cell (p:=⟨st,9,none⟩) (show st<v.heap.size by omega) (show ¬st=gL by omega)).trans eO,(hV.cell (p:=⟨st,10,none⟩) (show st<v.heap.size by omega) (show ¬st=gL by omega)).trans iy,(hV.cell (p:=⟨st,11,none⟩) (show st<v.heap.size by omega) (show ¬st=gL by omega)).trans iw⟩
 have akg:=O aby;clear aby
 go_loopw [16] (fun i wr=>∃k:Nat,k≤1∧i= .int .i64 k∧aA wr (fun b=>b=gL) TIm 1 (.slice (some ⟨gL,0,none⟩) 2 2) 2 (if k=0 then [.int .i64 0,.int .i64 0] else [.int .i64 5,.int .i64 2])∧Fr (fun b=>b=gL) v wr) (fun i _=>1-(intOf i).toNat)
 case atStart=>exact ⟨0,Nat.zero_le _,rfl,O4.out,Fr.refl _ _⟩
 obtain ⟨k,hk,rfl,ho,hf⟩:=hrel;have awj:v.heap.size≤wr.heap.size:=hf.size;obtain rfl|rfl:k=0∨k=1:=by omega
 ·obtain ⟨q0_,q1_,q2_,q3_,q4_,q5_,q6_,q7_,q8_,q9_,bJ,bI,bG,bH,bM,bL,bO,bU,dh,dB,dF,dD,dQ,dP,dO,dV,dU,fq,eZ,eY,eX,eU,eT,eP,eO,iy,iw⟩:=akg.out _ hf
  obtain ⟨HO,HF⟩:=aN ho hf;clear ho;have am6:=fun V (hV:Fr (fun b=>b=gL) wr V)=>akg.out V (HF.out.trans hV fun b hb=> .inl hb);have asb:=O am6;clear am6 hf;have uQ:∀V,Fr (fun b=>b=gL) wr V→V.cell? ⟨g1,3,none⟩=some (.slice (some ⟨bt,0,none⟩) 1 ct)∧V.cell? ⟨g2,2,none⟩=some (.slice (some ⟨st,0,none⟩) 1 kt)∧V.cell? ⟨bt,0,none⟩=some (.int .i64 5)∧V.cell? ⟨bt,1,none⟩=some (.int .i64 2)∧V.cell? ⟨bt,2,none⟩=some (.int .i64 0)∧V.cell? ⟨bt,3,none⟩=some (.int .i64 0)∧V.cell? ⟨bt,4,none⟩=some (.int .i64 3)∧V.cell? ⟨bt,5,none⟩=some (.int .i64 0)∧V.cell? ⟨bt,6,none⟩=some (.bool false)∧V.cell? ⟨st,0,none⟩=some (.bool true)∧V.cell? ⟨st,1,none⟩=some (.bool false)∧V.cell? ⟨st,2,none⟩=some (.int .i64 0)∧V.cell? ⟨st,3,none⟩=some (.int .i64 1)∧V.cell? ⟨st,4,none⟩=some (.int .i64 (-1))∧V.cell? ⟨st,5,none⟩=some (.int .i64 (-1))∧V.cell? ⟨st,6,none⟩=some (.int .i64 1)∧V.cell? ⟨st,7,none⟩=some (.int .i64 0)∧V.cell? ⟨st,8,none⟩=some (.int .i64 1)∧V.cell? ⟨st,9,none⟩=some (.int .i64 0)∧V.cell? ⟨st,10,none⟩=some (.int .i64 0)∧V.cell? ⟨st,11,none⟩=some (.int .i64 20):=fun V hV=>by
   obtain ⟨q0_,q1_,q2_,q3_,q4_,q5_,q6_,q7_,q8_,q9_,bJ,bI,bG,bH,bM,bL,bO,bU,dh,dB,dF,dD,dQ,dP,dO,dV,dU,fq,eZ,eY,eX,eU,eT,eP,eO,iy,iw⟩:=asb.out V hV;exact ⟨q3_,bG,dh,dB,dF,dD,dQ,dP,dO,dV,dU,fq,eZ,eY,eX,eU,eT,eP,eO,iy,iw⟩
  have akf:=O uQ;clear uQ
  go_upto_region 5 with fail
  clear q0_ q1_ q2_ q4_ q5_ q6_ q7_ q8_ q9_ bJ bI bH bM bL bO bU;have hs9:wr.heap.size≤wr.heap.size:=Nat.le_refl _
  go_cut [7,8] from 19 to 28 (fun x y wx=>∃ga gb,x= .pointer (some ⟨ga,0,none⟩)∧y= .pointer (some ⟨gb,0,none⟩)∧wr.heap.size≤ga∧wr.heap.size≤gb∧Blk wx ga TTn #[.int .i64 5,.int .i64 2,.int .i64 0,.int .i64 0,.int .i64 3,.int .i64 0,.bool false]∧Blk wx gb TTs #[.bool true,.bool false,.int .i64 0,.int .i64 1,.int .i64 (-1),.int .i64 (-1),.int .i64 1,.int .i64 0,.int .i64 1,.int .i64 0,.int .i64 0,.int .i64 20]∧Fr No wr wx)
  case first=>
   go_region_held3 (fun V=>V.cell? ⟨g1,3,none⟩=some (.slice (some ⟨bt,0,none⟩) 1 ct)∧V.cell? ⟨g2,2,none⟩=some (.slice (some ⟨st,0,none⟩) 1 kt)∧V.cell? ⟨bt,0,none⟩=some (.int .i64 5)∧V.cell? ⟨bt,1,none⟩=some (.int .i64 2)∧V.cell? ⟨bt,2,none⟩=some (.int .i64 0)∧V.cell? ⟨bt,3,none⟩=some (.int .i64 0)∧V.cell? ⟨bt,4,none⟩=some (.int .i64 3)∧V.cell? ⟨bt,5,none⟩=some (.int .i64 0)∧V.cell? ⟨bt,6,none⟩=some (.bool false)∧V.cell? ⟨st,0,none⟩=some (.bool true)∧V.cell? ⟨st,1,none⟩=some (.bool false)∧V.cell? ⟨st,2,none⟩=some (.int .i64 0)∧V.cell? ⟨st,3,none⟩=some (.int .i64 1)∧V.cell? ⟨st,4,none⟩=some (.int .i64 (-1))∧V.cell? ⟨st,5,none⟩=some (.int .i64 (-1))∧V.cell? ⟨st,6,none⟩=some (.int .i64 1)∧V.cell? ⟨st,7,none⟩=some (.int .i64 0)∧V.cell? ⟨st,8,none⟩=some (.int .i64 1)∧V.cell? ⟨st,9,none⟩=some (.int .i64 0)∧V.cell? ⟨st,10,none⟩=some (.int .i64 0)∧V.cell? ⟨st,11,none⟩=some (.int .i64 20)) ((refine akf.out _ ?_;exact (by repeat (with_reducible first|assumption|exact Fr.refl _ _|refine Fr.alloc ?_ _|refine Fr.drew ?_|refine Fr.setCell ?_ (.inr (by assumption)) _)))) (fail)
   all_goals generalize hW:World.drew (World.alloc (World.alloc wr _) _)=W4
   all_goals obtain ⟨ba,bb,f4⟩:=arh hW
   all_goals clear hW
   all_goals go_wp2_with fail
   all_goals go_meet
   ·exact ⟨_,_,rfl,rfl,Nat.le_refl _,Nat.le_succ _,ba,bb,f4⟩
   ·exact ⟨_,_,rfl,rfl,Nat.le_succ _,Nat.le_refl _,bb,ba,f4⟩
  clear q3_ bG dh dB dF dD dQ dP dO dV dU fq eZ eY eX eU eT eP eO iy iw;obtain ⟨ga,gb,rfl,rfl,hga,hgb,ba,bb,f4⟩:=hcut;have hba:∀V,Fr (fun b=>b=gL) wc V→Blk V ga TTn #[.int .i64 5,.int .i64 2,.int .i64 0,.int .i64 0,.int .i64 3,.int .i64 0,.bool false]∧Blk V gb TTs #[.bool true,.bool false,.int .i64 0,.int .i64 1,.int .i64 (-1),.int .i64 (-1),.int .i64 1,.int .i64 0,.int .i64 1,.int .i64 0,.int .i64 0,.int .i64 20]:=fun V hV=>⟨ba.fr hV (show ¬ga=gL by omega),bb.fr hV (show ¬gb=gL by omega)⟩;obtain ⟨HBA,O5,F5⟩:=bC hba (HO.out.au f4) ((HF.out.bR f4));clear hba ba bb f4 HO HF;obtain ⟨ba,bb⟩:=HBA.out _ (Fr.refl _ _);obtain ⟨x0,x1,x2,x3,x4,x5,x6⟩:=zq ba;obtain ⟨y0,y1,y2,y3,y4,y5,y6,y7,y8,y9,y10,y11⟩:=nV bb;clear ba bb
  go_wp2_with fail
  refine (vM _).mono ?_;rintro e v1 ⟨rfl,f1⟩;clear x0 x1 x2 x3 x4 x5 x6 y0 y1 y2 y3 y4 y5 y6 y7 y8 y9 y10 y11;have g1_:Fr (fun b=>b=gL) wc v1:=f1.mono fun _ h=>h.elim;have O6:=O (O5.out.au f1);clear f1 O5;obtain ⟨ba,bb⟩:=HBA.out _ g1_;obtain ⟨x0,x1,x2,x3,x4,x5,x6⟩:=zq ba;obtain ⟨y0,y1,y2,y3,y4,y5,y6,y7,y8,y9,y10,y11⟩:=nV bb;clear ba bb
  go_wp2_with fail
  refine (anv O6.out).mono ?_;rintro e v2 ⟨rfl,o7,f2⟩;clear x0 x1 x2 x3 x4 x5 x6 y0 y1 y2 y3 y4 y5 y6 y7 y8 y9 y10 y11;have g2_:Fr (fun b=>b=gL) wc v2:=g1_.trans f2 fun b hb=> .inl hb;have O7:=O o7;clear o7 f2 O6 g1_;obtain ⟨ba,bb⟩:=HBA.out _ g2_;obtain ⟨x0,x1,x2,x3,x4,x5,x6⟩:=zq ba;obtain ⟨y0,y1,y2,y3,y4,y5,y6,y7,y8,y9,y10,y11⟩:=nV bb;clear ba bb
  go_wp2_with fail
  refine (xG _ _).mono ?_;rintro e w5 ⟨rfl,rfl⟩
  go_wp2_with fail
  refine (anu O7.out).mono ?_;rintro e v3 ⟨rfl,o8,f3⟩;clear x0 x1 x2 x3 x4 x5 x6 y0 y1 y2 y3 y4 y5 y6 y7 y8 y9 y10 y11;have g3_:Fr (fun b=>b=gL) wc v3:=g2_.trans f3 fun b hb=> .inl hb;have O8:=O o8;clear o8 f3 O7 g2_;obtain ⟨ba,bb⟩:=HBA.out _ g3_;obtain ⟨x0,x1,x2,x3,x4,x5,x6⟩:=zq ba;obtain ⟨y0,y1,y2,y3,y4,y5,y6,y7,y8,y9,y10,y11⟩:=nV bb;clear ba bb
  go_wp2_with fail
  refine (xG _ _).mono ?_;rintro e w5 ⟨rfl,rfl⟩
  go_wp2_with fail
  go_roundw
  case rel=>exact ⟨1,by decide,rfl,O8.out,F5.out.trans g3_ fun b hb=> .inl hb⟩
  case measure=>simp [intOf]
 ·obtain ⟨q0_,q1_,q2_,q3_,q4_,q5_,q6_,q7_,q8_,q9_,bJ,bI,bG,bH,bM,bL,bO,bU,dh,dB,dF,dD,dQ,dP,dO,dV,dU,fq,eZ,eY,eX,eU,eT,eP,eO,iy,iw⟩:=akg.out _ hf
  go_wp2_with fail
  go_ret
  exact ⟨gL,2,rfl,ho.mono fun b hb=>by have hb:b=gL:=hb;omega,(FB.out.ah f).aD hf fun b hb=>by have hb:b=gL:=hb;omega⟩
end
end Go.Proofs.YtodkhcbjpodgeaaGreat
