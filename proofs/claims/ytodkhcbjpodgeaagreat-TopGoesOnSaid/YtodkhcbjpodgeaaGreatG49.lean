/-
  A quorum of one replica: what the sanity check asks of it.
-/
import Derived.Test.YtodkhcbjpodgeaaGreatG33
import Derived.Test.YtodkhcbjpodgeaaGreatG45
namespace Go.Proofs.YtodkhcbjpodgeaaGreat
open Go.ChangeShapes Go.WideShapes Go.ChangeAt Go.RowKit
set_option linter.unusedVariables false
set_option maxRecDepth 100000
set_option maxHeartbeats 4000000
section
set_option linter.unusedSimpArgs false
section
variable {w w' :World}{lab lab' :Nat→Option Nat}{z n m:Nat}{pv:Nat→Nat}{q q1:Qs}{F:Nat→Prop}
theorem pY (h:QAt w lab z pv q n)(hn:q.net=[])(up:Int):Calls Tryz.prog 152 #[.pointer (some ⟨z,0,none⟩),.int .i64 up] w fun e w' =>e= .returned (.int .i64 0)∧w=w' :=by
 obtain ⟨Ar,cr,NV,DV,vs,h1,h2,h3,h4⟩:=h.mem;obtain ⟨A,c,rfl,hA⟩:=h3.own.form;rw [hn] at h1;have z1:w.cell? ⟨z,1,none⟩=some (.slice A 0 c):=h1.cell 1;clear h h1 h2 h3 h4 hA hn
 go_in
 go_wp2_with fail
 go_loopw [5] (fun i wr=>i= .int .i64 0∧wr=w) (fun _ _=>0)
 case atStart=>exact ⟨rfl,rfl⟩
 obtain ⟨rfl,rfl⟩:=hrel
 go_wp2_with fail
 go_ret
 exact ⟨rfl,rfl⟩
set_option maxHeartbeats 1000000 in
theorem alk (h:QAt w lab z pv q n):Calls Tryz.prog 72 #[.pointer (some ⟨z,0,none⟩)] w (pJ w TEq 9 q.done.length (lF q.done)):=by
 obtain ⟨Ar,cr,NV,DV,vs,h1,h2,h3,h4⟩:=h.mem;obtain ⟨A,c,rfl,hA⟩:=h4.form;have hone:∀u∈lF q.done,u.oneCell' =true:=fun u hu=>by
  obtain ⟨e,-,hu⟩:=List.mem_flatMap.1 hu;exact acf e u hu
 have hc:=zR w A q.done.length c (lF q.done) hA h4.rd (afx _) hone (by have:=h.ok.done;omega);have z2:w.cell? ⟨z,2,none⟩=some (.slice A q.done.length c):=h1.cell 2;have hzl:=h.lt z 0 h.z0;clear h h1 h2 h3 h4 hA hone;generalize lF q.done=X at*;generalize q.done.length=L at*;have HC:=O hc;clear hc
 go_in
 go_wp2_with fail
 refine HC.out.mono ?_;rintro e w1 m1;have M:=O m1;obtain ⟨A,c,rfl,-⟩:=m1
 go_wp2_with fail
 go_ret
 exact M.out
theorem uq (h:QAt w lab z pv q n)(h1:q.n=1):Calls Tryz.prog 149 #[.pointer (some ⟨z,0,none⟩)] w fun e w' =>e= .returned (.int .i64 (if (q.rs 0).role=3 then 0 else -1))∧Fr No w w' :=by
 have ajl:=fun W (hf:Fr No w W)=>alu ((h.au hf).zy 0 oy);obtain ⟨br,cr,hnc,hcm,hr⟩:=h.row;rw [h1] at hr hnc;have hr' :∀W,Fr No w W→W.cell? ⟨z,0,none⟩=some (.slice (some ⟨br,0,none⟩) 1 cr)∧W.cell? ⟨br,0,none⟩=some (.pointer (some ⟨pv 0,0,none⟩)):=fun W hf=>⟨(hr W hf).1,(hr W hf).2 0 dcd⟩;obtain ⟨z0,z1⟩:=hr' w (Fr.refl _ _);unfold maxLen at hcm;obtain ⟨x,hx⟩:∃x,x=(q.rs 0).role:=⟨_,rfl⟩;rw [←hx] at ajl ⊢;obtain ⟨y,hy⟩:∃y:Int,y=if x=3 then 0 else -1:=⟨_,rfl⟩
 rw [←hy];clear h h1 hr hx;have HY:=O hy;clear hy;have an9:=O ajl;have HR' :=O hr';clear ajl hr'
 go_in
 go_wp2_with fail
 go_loopw [3,11] (fun b i wr=>((b= .int .i64 (-1)∧i= .int .i64 0)∨(b= .int .i64 y∧i= .int .i64 1))∧Fr No w wr) (fun _ i _=>1-(intOf i).toNat)
 case atStart=>exact ⟨.inl ⟨rfl,rfl⟩,Fr.refl _ _⟩
 obtain ⟨⟨rfl,rfl⟩|⟨rfl,rfl⟩,hf⟩:=hrel
 ·clear z0 z1
  obtain ⟨z0,z1⟩:=HR'.out wr hf;have HF:=O hf;clear hf
  cases d1:x == 3
  ·have hx:¬x=3:=by simpa using d1
   go_wp2_with fail
   go_quiet ((go_at_call 199;exact dK (an9.out _ (HF.out.drewN _))))
   go_wp2_with fail
   go_roundw
   case rel=>exact ⟨.inr ⟨by rw [HY.out,if_neg hx],rfl⟩,HF.out.drewN _⟩
   case measure=>simp [intOf]
  ·have hx:x=3:=by simpa using d1
   go_wp2_with fail
   go_quiet ((go_at_call 199;exact dK (an9.out _ (HF.out.drewN _))))
   go_wp2_with fail
   go_roundw
   case rel=>exact ⟨.inr ⟨by rw [HY.out,if_pos hx],rfl⟩,HF.out.drewN _⟩
   case measure=>simp [intOf]
 ·clear z0 z1
  obtain ⟨z0,z1⟩:=HR'.out wr hf
  go_wp2_with fail
  go_ret
  exact ⟨rfl,hf⟩
end
end
section
set_option linter.unusedSimpArgs false
variable {w w' :World}{F G:Nat→Prop}{lab lab' :Nat→Option Nat}{p z n m k:Nat}{pv:Nat→Nat}{q:Qs}{c:Cx}{s:Sx}
abbrev an0:TypeId:=185
def noE:En:=⟨0,0,0,0,0,0,0,0,0⟩
def qs0:Qs:=wG 1
def qs1:Qs:=qs0.act 1 0 0 noE
def qs2:Qs:=qs1.act 2 0 0 e1C
def qs3:Qs:=qs2.act 2 0 0 e2C
theorem rT:qs0.n=1∧qs0.net=[]∧(qs0.rs 0).role=1∧(qs0.rs 0).js.log=[]∧qs0.zB 1 0 0 noE=0:=⟨rfl,rfl,rfl,rfl,by decide+kernel⟩
theorem wH:qs1.n=1∧qs1.net=[]∧(qs1.rs 0).role=3∧qs1.zB 2 0 0 e1C=0:=⟨by decide+kernel,by decide+kernel,by decide+kernel,by decide+kernel⟩
theorem rR:qs2.n=1∧qs2.net=[]∧(qs2.rs 0).role=3∧(qs2.rs 0).commit=1∧qs2.done=[e1C]∧qs2.zB 2 0 0 e2C=0:=⟨by decide+kernel,by decide+kernel,by decide+kernel,by decide+kernel,by decide+kernel,by decide+kernel⟩
theorem ag2:qs3.n=1∧qs3.net=[]∧(qs3.rs 0).role=3∧(qs3.rs 0).commit=2∧qs3.done=[e1C,e2C]:=⟨by decide+kernel,by decide+kernel,by decide+kernel,by decide+kernel,by decide+kernel⟩
abbrev plC (c:Cx)(z:Nat)(s:Sx)(k:Nat):Array Value:= #[.int .i64 2,.slice (some ⟨c.bz,0,none⟩) 2 c.cz,.slice (some ⟨c.bc,0,none⟩) 2 c.cc,.slice (some ⟨c.bt,0,none⟩) 1 c.ct,.slice (some ⟨c.bv,0,none⟩) 1 c.cv,.slice (some ⟨c.br,0,none⟩) 1 c.cr,.slice (some ⟨c.bo,0,none⟩) 1 c.co,.int .i64 1,.int .i64 20,.int .i64 0,.pointer (some ⟨z,0,none⟩),.int .i64 1,
 .int .i64 0,.int .i64 (k:Int),.slice (some ⟨s.st,0,none⟩) 1 s.kt,.slice (some ⟨s.sc,0,none⟩) 2 s.kc,.int .i64 1,.int .i64 0,.int .i64 0,.int .i64 0]
structure jC (w:World) (p z:Nat) (lab:Nat→Option Nat) (pv:Nat→Nat) (q:Qs) (n:Nat) (c:Cx) (s:Sx) (k:Nat):Prop where
 np:lab p=none
 blk:Blk w p an0 (plC c z s k)
 q:QAt w lab z pv q n
 c:eB w (fun b=>lab b=none∧b≠p) c
 s:eD w (fun b=>lab b=none∧b≠p) s k
theorem jC.au (h:jC w p z lab pv q n c s k)(hf:Fr No w w'):jC w' p z lab pv q n c s k:=⟨h.np,h.blk.fr hf id,h.q.au hf,h.c.au hf,h.s.au hf⟩
theorem aA.rJ {e:TypeId}{size n:Nat}{v:Value}{xs:List Value}(h:aA w (fun b=>lab b=none∧b≠p) e size v n xs)(hl:∀b,b<w.heap.size→lab' b=lab b)(hf:Fr (fun b=>lab b≠none) w w'):aA w' (fun b=>lab' b=none∧b≠p) e size v n xs:=
 have k:aA w (fun b=>lab' b=none∧b≠p) e size v n xs:=⟨h.1,fun g hg=>⟨(hl g (h.lt g hg)).trans (h.2 g hg).1,(h.2 g hg).2⟩⟩
 k.fr' hf fun g hg hn=>hn (h.2 g hg).1
def jv (w:World)(p z:Nat)(lab:Nat→Option Nat)(pv:Nat→Nat)(q:Qs)(n:Nat)(c:Cx)(s:Sx)(k:Nat)(w' :World):Prop:=
 ∃lab',jC w' p z lab' pv q n c s k∧(∀b,b<w.heap.size→lab' b=lab b)∧Fr (fun b=>lab b≠none) w w'
theorem jC.turned {q' :Qs}(h:jC w p z lab pv q n c s k)(hq:QTo w lab z pv q' m w'):jv w p z lab pv q' m c s k w' :=by
 obtain ⟨lab',a,e,f⟩:=hq;exact ⟨lab',⟨(e p h.blk.lt).trans h.np,h.blk.fr f (fun hn=>hn h.np),a,⟨h.c.z.rJ e f,h.c.k.rJ e f,h.c.t.rJ e f,h.c.v.rJ e f,h.c.r.rJ e f,h.c.o.rJ e f⟩,⟨h.s.t.rJ e f,h.s.c.rJ e f⟩⟩,e,f⟩
theorem jC.self (h:jC w p z lab pv q n c s k)(hf:Fr No w w'):jv w p z lab pv q n c s k w' :=⟨lab,h.au hf,fun _ _=>rfl,hf.mono fun _ h=>h.elim⟩
theorem jv.then {w1:World}{q' :Qs}(hlt:∀b j,lab b=some j→b<w.heap.size)(h:jv w p z lab pv q n c s k w1)(k2:∀cZ,jC w1 p z cZ pv q n c s k→jv w1 p z cZ pv q' m c s k w'):jv w p z lab pv q' m c s k w' :=by
 obtain ⟨l1,a1,e1,f1⟩:=h;obtain ⟨l2,a2,e2,f2⟩:=k2 l1 a1;refine ⟨l2,a2,fun b hb=>(e2 b (nll hb f1.size)).trans (e1 b hb),f1.trans f2 fun b hb=> ?_⟩
 rcases Nat.lt_or_ge b w.heap.size with h|h
 ·rw [e1 b h] at hb;exact .inl hb
 ·exact .inr h
theorem fI {V:World}{g:Nat}{a0 a1 a2 a3 a4 a5 a6 a7 a8 a9 a10 a11 a12 a13 a14 a15 a16 a17 a18 a19:Value}(h:Blk V g an0 #[a0,a1,a2,a3,a4,a5,a6,a7,a8,a9,a10,a11,a12,a13,a14,a15,a16,a17,a18,a19]):V.cell? ⟨g,0,none⟩=some a0∧V.cell? ⟨g,1,none⟩=some a1∧V.cell? ⟨g,2,none⟩=some a2∧V.cell? ⟨g,3,none⟩=some a3∧V.cell? ⟨g,4,none⟩=some a4∧V.cell? ⟨g,5,none⟩=some a5∧V.cell? ⟨g,6,none⟩=some a6∧V.cell? ⟨g,7,none⟩=some a7∧V.cell? ⟨g,8,none⟩=some a8∧V.cell? ⟨g,9,none⟩=some a9∧V.cell? ⟨g,10,none⟩=some a10∧V.cell? ⟨g,11,none⟩=some a11∧V.cell? ⟨g,12,none⟩=some a12∧V.cell? ⟨g,13,none⟩=some a13∧V.cell? ⟨g,14,none⟩=some a14∧V.cell? ⟨g,15,none⟩=some a15∧V.cell? ⟨g,16,none⟩=some a16∧V.cell? ⟨g,17,none⟩=some a17∧V.cell? ⟨g,18,none⟩=some a18∧V.cell? ⟨g,19,none⟩=some a19:=
 ⟨h.cell 0,h.cell 1,h.cell 2,h.cell 3,h.cell 4,h.cell 5,h.cell 6,h.cell 7,h.cell 8,h.cell 9,h.cell 10,h.cell 11,h.cell 12,h.cell 13,h.cell 14,h.cell 15,h.cell 16,h.cell 17,h.cell 18,h.cell 19⟩
end
section
set_option linter.unusedSimpArgs false
variable {w w' :World}{F G:Nat→Prop}{lab lab' :Nat→Option Nat}{p z n m k:Nat}{pv:Nat→Nat}{q:Qs}{c:Cx}{s:Sx}
theorem al0 (w:World):Calls Tryz.prog 179 #[.int .u64 1] w fun e w' =>e= .returned (.int .i64 1)∧w=w' :=by
 go_in
 go_wp2_with fail
 go_ret
 refine ⟨?_,rfl⟩
 kernel_rfl
theorem ae1 (w:World):Calls Tryz.prog 144 #[.int .u64 1] w fun e w' =>e= .returned (.int .i64 1)∧w=w' :=by
 go_in
 go_wp2_with (go_at_call 179;refine (al0 _).mono ?_;rintro e w' ⟨rfl,rfl⟩)
 go_ret
 exact ⟨rfl,rfl⟩
theorem rP (h:jC w p z lab pv q n c s k):Calls Tryz.prog 102 #[.pointer (some ⟨p,0,none⟩)] w fun e w' =>e= .returned (.bool true)∧Fr No w w' :=by
 have hc:=fun V (hV:Fr No w V)=>fI (h.au hV).blk;have hs:∀V,Fr No w V→V.cell? ⟨p,11,none⟩=some (.int .i64 1)∧V.cell? ⟨p,5,none⟩=some (.slice (some ⟨c.br,0,none⟩) 1 c.cr):=fun V hV=>by
  obtain ⟨c0,c1,c2,c3,c4,c5,c6,c7,c8,c9,c10,c11,_⟩:=hc V hV;exact ⟨c11,c5⟩
 obtain ⟨c11,c5⟩:=hs w (Fr.refl _ _);have HS:=O hs;clear h hc hs
 go_in
 go_upto_region 1 with fail
 go_region_held3 (fun V=>V.cell? ⟨p,11,none⟩=some (.int .i64 1)∧V.cell? ⟨p,5,none⟩=some (.slice (some ⟨c.br,0,none⟩) 1 c.cr)) ((refine HS.out _ ?_;(with_reducible ((repeat (first|assumption|exact Fr.refl _ _|refine Fr.alloc ?_ _|refine Fr.drew ?_|refine Fr.drewN ?_ _|refine Fr.setCell ?_ (.inr (Nat.le_refl _)) _));done)))) (first|(go_at_call 144;refine (ae1 _).mono ?_;rintro e w' ⟨rfl,rfl⟩))
 go_wp2_with fail
 go_ret
 exact ⟨rfl,frz⟩
theorem aji (h:jC w p z lab pv q n c s k):Calls Tryz.prog 150 #[.pointer (some ⟨p,0,none⟩),.int .i64 0] w fun e w' =>e= .returned (.bool true)∧w=w' :=by
 obtain ⟨c0,c1,c2,c3,c4,c5,c6,c7,c8,c9,c10,c11,_⟩:=fI h.blk;clear h
 go_in
 go_wp2_with fail
 go_ret
 exact ⟨rfl,rfl⟩
theorem ap9 (h:jC w p z lab pv q n c s k):Calls Tryz.prog 150 #[.pointer (some ⟨p,0,none⟩),.int .i64 (-1)] w fun e w' =>e= .returned (.bool false)∧w=w' :=by
 obtain ⟨c0,c1,c2,c3,c4,c5,c6,c7,c8,c9,c10,c11,_⟩:=fI h.blk;clear h
 go_in
 go_wp2_with fail
 go_ret
 exact ⟨rfl,rfl⟩
theorem agf (h:jC w p z lab pv q n c s k)(hn:q.n=1)(hl:(q.rs 0).js.log=[]):Calls Tryz.prog 154 #[.pointer (some ⟨p,0,none⟩)] w fun e w' =>e= .returned (.int .i64 0)∧Fr No w w' :=by
 have hc:=fun V (hV:Fr No w V)=>fI (h.au hV).blk;have hs:∀V,Fr No w V→V.cell? ⟨p,5,none⟩=some (.slice (some ⟨c.br,0,none⟩) 1 c.cr)∧V.cell? ⟨p,10,none⟩=some (.pointer (some ⟨z,0,none⟩)):=fun V hV=>by
  obtain ⟨c0,c1,c2,c3,c4,c5,c6,c7,c8,c9,c10,_⟩:=hc V hV;exact ⟨c5,c10⟩
 have hup:=fun V (hV:Fr No w V)=>aji (h.au hV);have ako:∀V,Fr No w V→Calls Tryz.prog 212 #[.pointer (some ⟨z,0,none⟩),.int .i64 0] V fun e w' =>∃A c,e= .returned (.slice A 0 c)∧Fr No V w' :=fun V hV=>
  (apt (h.au hV).q 0 oy).mono fun e w' hh=>by
   rw [hl] at hh;obtain ⟨A,c,h1,_,h3⟩:=hh;exact ⟨A,c,h1,h3⟩
 obtain ⟨c5,c10⟩:=hs w (Fr.refl _ _);obtain ⟨HS,HUP,ar2⟩:=bC hs hup ako;clear h hc hs hup ako hn hl
 go_in
 go_wp2_with fail
 clear c5 c10
 go_loopw [3,4,5,15] (fun b t l i wr=>((b= .int .i64 (-1)∧t= .int .i64 (-1)∧l= .int .i64 (-1)∧i= .int .i64 0)∨(b= .int .i64 0∧i= .int .i64 1))∧Fr No w wr) (fun _ _ _ i _=>1-(intOf i).toNat)
 case atStart=>exact ⟨.inl ⟨rfl,rfl,rfl,rfl⟩,Fr.refl _ _⟩
 obtain ⟨⟨rfl,rfl,rfl,rfl⟩|⟨rfl,rfl⟩,hf⟩:=hrel
 ·obtain ⟨c5,c10⟩:=HS.out _ hf
  have HF:=O hf;clear hf
  go_wp2_with fail
  refine (HUP.out _ HF.out).mono ?_;rintro e w5 ⟨rfl,rfl⟩
  go_wp2_with fail
  refine (ar2.out _ HF.out).mono ?_;rintro e v ⟨A,cc,rfl,f⟩;clear c5 c10
  go_wp2_with fail
  go_roundw
  case rel=>exact ⟨.inr ⟨rfl,rfl⟩,HF.out.ah f⟩
  case measure=>simp [intOf]
 ·obtain ⟨c5,c10⟩:=HS.out _ hf
  go_wp2_with fail
  go_ret
  exact ⟨rfl,hf⟩
end
section
set_option linter.unusedSimpArgs false
variable {w w' :World}{F G:Nat→Prop}{lab lab' :Nat→Option Nat}{p z n m k:Nat}{pv:Nat→Nat}{q:Qs}{c:Cx}{s:Sx}
theorem jv.base {V:World}(hf:Fr No w V)(h:jv V p z lab pv q n c s k w'):jv w p z lab pv q n c s k w' :=by
 obtain ⟨l,a,e,f⟩:=h;exact ⟨l,a,fun b hb=>e b (nll hb hf.size),(hf.mono fun _ h=>h.elim).trans f fun b hb=> .inl hb⟩
theorem acn (h:jC w p z lab pv qs0 n c s k)(hn:n≤3000000):Calls Tryz.prog 151 #[.pointer (some ⟨z,0,none⟩),.agg #[.int .i64 1,.int .i64 0,.int .i64 0,.int .i64 0,.int .i64 0,.int .i64 0,.int .i64 0,.int .i64 0,.int .i64 0,.int .i64 0,.int .i64 0,.int .i64 0]] w fun x w' =>x= .returned (.int .i64 0)∧jv w p z lab pv qs1 (n+700000) c s k w' :=by
 refine (alm h.q 0 dcd 0 noE oy).mono ?_;rintro e w' ⟨h1,h2⟩;rw [show qs0.zB 1 (0:Nat) 0 noE=0 from rT.2.2.2.2] at h1;exact ⟨h1,h.turned h2⟩
theorem af3 (h:jC w p z lab pv qs1 n c s k)(hn:n≤3000000):Calls Tryz.prog 151 #[.pointer (some ⟨z,0,none⟩),.agg #[.int .i64 2,.int .i64 0,.int .i64 0,.int .i64 1,.int .i64 0,.int .i64 0,.int .i64 0,.int .i64 1,.int .i64 0,.int .i64 0,.int .i64 0,.int .i64 0]] w fun x w' =>x= .returned (.int .i64 0)∧jv w p z lab pv qs2 (n+700000) c s k w' :=by
 refine (ag3 h.q 0 dcd 0 e1C dcd oy).mono ?_;rintro e w' ⟨h1,h2⟩;rw [show qs1.zB 2 (0:Nat) 0 e1C=0 from wH.2.2.2] at h1;exact ⟨h1,h.turned h2⟩
theorem af2 (h:jC w p z lab pv qs2 n c s k)(hn:n≤3000000):Calls Tryz.prog 151 #[.pointer (some ⟨z,0,none⟩),.agg #[.int .i64 2,.int .i64 0,.int .i64 0,.int .i64 2,.int .i64 0,.int .i64 0,.int .i64 0,.int .i64 (-1),.int .i64 1,.int .i64 0,.int .i64 20,.int .i64 0]] w fun x w' =>x= .returned (.int .i64 0)∧jv w p z lab pv qs3 (n+700000) c s k w' :=by
 refine (ag3 h.q 0 dcd 0 e2C dcd oy).mono ?_;rintro e w' ⟨h1,h2⟩;rw [show qs2.zB 2 (0:Nat) 0 e2C=0 from rR.2.2.2.2.2] at h1;exact ⟨h1,h.turned h2⟩
theorem kK {W V:World}{g:Nat}{es:Array Value}(A:jC W p z lab pv q n c s k)(hb:Blk W g iT es)(hg:lab g=none)(hV:Fr (fun b=>lab b≠none) W V):(V.cell? ⟨p,10,none⟩=some (.pointer (some ⟨z,0,none⟩))∧V.cell? ⟨p,11,none⟩=some (.int .i64 1)∧V.cell? ⟨p,13,none⟩=some (.int .i64 (k:Int)))∧Blk V g iT es:=by
 have h:=A.blk.fr hV (fun hn=>hn A.np);exact ⟨⟨h.cell 10,h.cell 11,h.cell 13⟩,hb.fr hV (fun hn=>hn hg)⟩
set_option maxHeartbeats 8000000 in
theorem vF (h:jC w p z lab pv qs2 n c s 1)(hn:n≤2000000):Calls Tryz.prog 104 #[.pointer (some ⟨p,0,none⟩),.agg #[.int .i64 2,.int .i64 0,.int .i64 0,.int .i64 0,.int .i64 (-1),.int .i64 1,.int .i64 0,.int .i64 20,.int .i64 0]] w fun e w' =>e= .returned (.bool true)∧jv w p z lab pv qs3 (n+700000) c s 1 w' :=by
 have hlt:=h.q.lt;obtain ⟨g,hg_⟩:∃g,g=w.heap.size:=⟨_,rfl⟩;obtain ⟨w1,hw1⟩:∃W,W=w.alloc (.cells #[.int .i64 2,.int .i64 0,.int .i64 0,.int .i64 0,.int .i64 (-1),.int .i64 1,.int .i64 0,.int .i64 20,.int .i64 0] iT):=⟨_,rfl⟩;have f0:Fr No w w1:=by rw [hw1];exact aj _ _
 have gb:Blk w1 g iT #[.int .i64 2,.int .i64 0,.int .i64 0,.int .i64 0,.int .i64 (-1),.int .i64 1,.int .i64 0,.int .i64 20,.int .i64 0]:=by rw [hw1,hg_];exact Blk.new _ _ _
 have hg:lab g=none:=by
  cases hq:lab g with
  |none=>rfl
  |some j=>have:=hlt g j hq;omega
 obtain ⟨A,GB,F0,HW,HG,HLT⟩:=oK (h.au f0) gb f0 hw1 hg_ hlt;clear h hlt gb f0 hw1 hg_
 go_in
 go_upto_region 1 with fail
 rw [←HW.out,←HG.out];clear HW HG
 go_wp2_with fail
 go_loopw [6] (fun i wr=>i= .int .i64 0∧wr=w1) (fun _ _=>0)
 case atStart=>exact ⟨rfl,rfl⟩
 obtain ⟨rfl,hwr⟩:=hrel;subst hwr;obtain ⟨⟨c10,c11,c13⟩,-⟩:=kK A.out GB.out hg (Fr.refl _ _)
 go_wp2_with fail
 refine (uq A.out.q rR.1).mono ?_;rintro e v1 ⟨rfl,f1⟩;rw [if_pos rR.2.2.1];obtain ⟨A1,GB1⟩:=aN (A.out.au f1) (GB.out.fr f1 id);clear c10 c11 c13;have hcl:∀V,Fr (fun b=>lab b≠none) v1 V→V.cell? ⟨p,10,none⟩=some (.pointer (some ⟨z,0,none⟩))∧V.cell? ⟨p,11,none⟩=some (.int .i64 1)∧V.cell? ⟨p,13,none⟩=some (.int .i64 1)∧V.cell? ⟨g,0,none⟩=some (.int .i64 2)∧V.cell? ⟨g,1,none⟩=some (.int .i64 0)∧V.cell? ⟨g,2,none⟩=some (.int .i64 0)∧V.cell? ⟨g,3,none⟩=some (.int .i64 0)∧V.cell? ⟨g,4,none⟩=some (.int .i64 (-1))∧V.cell? ⟨g,5,none⟩=some (.int .i64 1)∧V.cell? ⟨g,6,none⟩=some (.int .i64 0)∧V.cell? ⟨g,7,none⟩=some (.int .i64 20)∧V.cell? ⟨g,8,none⟩=some (.int .i64 0):=fun V hV=>by
  obtain ⟨⟨a1,a2,a3⟩,b1⟩:=kK A1.out GB1.out hg hV;exact ⟨a1,a2,a3,b1.cell 0,b1.cell 1,b1.cell 2,b1.cell 3,b1.cell 4,b1.cell 5,b1.cell 6,b1.cell 7,b1.cell 8⟩
 obtain ⟨c10,c11,c13,x0,x1,x2,x3,x4,x5,x6,x7,x8⟩:=hcl _ (Fr.refl _ _);have hdo:=fun V (hV:Fr No v1 V)=>(af2 (A1.out.au hV) oy).mono fun e w' ⟨h1,h2⟩=>(⟨h1,(hV.mono fun _ h=>h.elim:Fr (fun b=>lab b≠none) v1 V).trans h2.choose_spec.2.2 fun b hb=> .inl hb,jv.base hV h2⟩:e=Ending.returned (.int .i64 0)∧Fr (fun b=>lab b≠none) v1 w'∧jv v1 p z lab pv qs3 (n+700000) c s 1 w');have hup:=fun V (hV:Fr No v1 V)=>aji (A1.out.au hV);obtain ⟨HC1,HDO,HUP⟩:=bC hcl hdo hup;clear hcl hdo hup
 go_upto_region 4 with fail
 go_cut [26] from 13 to 26 (fun x wx=>x= .bool true∧jv v1 p z lab pv qs3 (n+700000) c s 1 wx)
 case first=>
  go_region_held3 (fun V=>V.cell? ⟨p,10,none⟩=some (.pointer (some ⟨z,0,none⟩))∧V.cell? ⟨p,11,none⟩=some (.int .i64 1)∧V.cell? ⟨p,13,none⟩=some (.int .i64 1)∧V.cell? ⟨g,0,none⟩=some (.int .i64 2)∧V.cell? ⟨g,1,none⟩=some (.int .i64 0)∧V.cell? ⟨g,2,none⟩=some (.int .i64 0)∧V.cell? ⟨g,3,none⟩=some (.int .i64 0)∧V.cell? ⟨g,4,none⟩=some (.int .i64 (-1))∧V.cell? ⟨g,5,none⟩=some (.int .i64 1)∧V.cell? ⟨g,6,none⟩=some (.int .i64 0)∧V.cell? ⟨g,7,none⟩=some (.int .i64 20)∧V.cell? ⟨g,8,none⟩=some (.int .i64 0)) ((refine HC1.out _ ?_;(with_reducible ((repeat (first|assumption|exact Fr.refl _ _|refine Fr.alloc ?_ _|refine Fr.drew ?_|refine Fr.drewN ?_ _|refine Fr.setCell ?_ (.inr (Nat.le_refl _)) _));done)))) (first|(go_at_call 150;refine (HUP.out _ (by with_reducible ((repeat (first|assumption|exact Fr.refl _ _|refine Fr.alloc ?_ _|refine Fr.drew ?_|refine Fr.drewN ?_ _));done))).mono ?_;rintro e w5 ⟨rfl,rfl⟩)|(go_at_call 151;refine (HDO.out _ (by with_reducible ((repeat (first|assumption|exact Fr.refl _ _|refine Fr.alloc ?_ _|refine Fr.drew ?_|refine Fr.drewN ?_ _));done))).mono ?_;rintro e v2 ⟨rfl,g2,t2⟩;have T2:=O t2;clear t2))
  all_goals go_wp2_with fail
  all_goals go_meet
  all_goals exact ⟨rfl,T2.out⟩
 clear c10 c11 c13 x0 x1 x2 x3 x4 x5 x6 x7 x8;obtain ⟨rfl,T2⟩:=hcut;have HT2:=O T2;obtain ⟨dW,A3,e3,g3⟩:=T2;have hc3:∀V,Fr No wc V→V.cell? ⟨p,10,none⟩=some (.pointer (some ⟨z,0,none⟩))∧V.cell? ⟨p,11,none⟩=some (.int .i64 1)∧V.cell? ⟨p,13,none⟩=some (.int .i64 1):=fun V hV=>⟨(A3.au hV).blk.cell 10,(A3.au hV).blk.cell 11,(A3.au hV).blk.cell 13⟩;have hfl:=fun V (hV:Fr No wc V)=>pY (A3.au hV).q ag2.2.1 1;have hcm:∀V,Fr No wc V→Calls Tryz.prog 153 #[.pointer (some ⟨z,0,none⟩),.int .i64 0] V fun e w' =>e= .returned (.int .i64 2)∧V=w' :=fun V hV=>by
  have hq:=wI (A3.au hV).q 0 dcd;rw [show (((qs3.rs 0).commit:Nat):Int)=2 from by rw [ag2.2.2.2.1];rfl] at hq;exact hq
 obtain ⟨c10,c11,c13⟩:=hc3 _ (Fr.refl _ _);obtain ⟨HC3,HFL,HCM⟩:=bC hc3 hfl hcm;clear hc3 hfl hcm A3 e3 g3
 go_upto_region 5 with fail
 go_region_held3 (fun V=>V.cell? ⟨p,10,none⟩=some (.pointer (some ⟨z,0,none⟩))∧V.cell? ⟨p,11,none⟩=some (.int .i64 1)∧V.cell? ⟨p,13,none⟩=some (.int .i64 1)) ((refine HC3.out _ ?_;(with_reducible ((repeat (first|assumption|exact Fr.refl _ _|refine Fr.alloc ?_ _|refine Fr.drew ?_|refine Fr.drewN ?_ _|refine Fr.setCell ?_ (.inr (Nat.le_refl _)) _));done)))) (first|(go_at_call 152;refine (HFL.out _ (by with_reducible ((repeat (first|assumption|exact Fr.refl _ _|refine Fr.alloc ?_ _|refine Fr.drew ?_|refine Fr.drewN ?_ _));done))).mono ?_;rintro e w5 ⟨rfl,rfl⟩))
 have f5:=(Fr.refl No wc).drew;generalize wc.drew=w6 at f5 ⊢;clear c10 c11 c13;obtain ⟨c10,c11,c13⟩:=HC3.out _ f5
 go_upto_region 6 with fail
 go_region_held3 (fun V=>V.cell? ⟨p,10,none⟩=some (.pointer (some ⟨z,0,none⟩))∧V.cell? ⟨p,11,none⟩=some (.int .i64 1)∧V.cell? ⟨p,13,none⟩=some (.int .i64 1)) ((refine HC3.out _ ?_;(with_reducible ((repeat (first|assumption|exact Fr.refl _ _|refine Fr.alloc ?_ _|refine Fr.drew ?_|refine Fr.drewN ?_ _|refine Fr.setCell ?_ (.inr (Nat.le_refl _)) _));done)))) (first|(go_at_call 153;refine (HCM.out _ (by with_reducible ((repeat (first|assumption|exact Fr.refl _ _|refine Fr.alloc ?_ _|refine Fr.drew ?_|refine Fr.drewN ?_ _));done))).mono ?_;rintro e w5 ⟨rfl,rfl⟩))
 go_wp2_with fail
 go_ret
 exact ⟨rfl,jv.base F0.out (jv.base f1 ((HT2.out.then A1.out.q.lt fun l a=>a.self ((by repeat (first|assumption|exact Fr.refl _ _|refine Fr.drew ?_))))))⟩
set_option maxHeartbeats 8000000 in
theorem vG (h:jC w p z lab pv qs0 n c s 0)(hn:n≤2000000):Calls Tryz.prog 104 #[.pointer (some ⟨p,0,none⟩),.agg #[.int .i64 1,.int .i64 0,.int .i64 0,.int .i64 0,.int .i64 1,.int .i64 0,.int .i64 0,.int .i64 0,.int .i64 0]] w fun e w' =>e= .returned (.bool true)∧jv w p z lab pv qs2 (n+1400000) c s 0 w' :=by
 have hlt:=h.q.lt;obtain ⟨g,hg_⟩:∃g,g=w.heap.size:=⟨_,rfl⟩;obtain ⟨w1,hw1⟩:∃W,W=w.alloc (.cells #[.int .i64 1,.int .i64 0,.int .i64 0,.int .i64 0,.int .i64 1,.int .i64 0,.int .i64 0,.int .i64 0,.int .i64 0] iT):=⟨_,rfl⟩;have f0:Fr No w w1:=by rw [hw1];exact aj _ _
 have gb:Blk w1 g iT #[.int .i64 1,.int .i64 0,.int .i64 0,.int .i64 0,.int .i64 1,.int .i64 0,.int .i64 0,.int .i64 0,.int .i64 0]:=by rw [hw1,hg_];exact Blk.new _ _ _
 have hg:lab g=none:=by
  cases hq:lab g with
  |none=>rfl
  |some j=>have:=hlt g j hq;omega
 obtain ⟨A,GB,F0,HW,HG,HLT⟩:=oK (h.au f0) gb f0 hw1 hg_ hlt;clear h hlt gb f0 hw1 hg_
 go_in
 go_upto_region 1 with fail
 rw [←HW.out,←HG.out];clear HW HG
 go_wp2_with fail
 go_loopw [6] (fun i wr=>(i= .int .i64 0∧wr=w1)∨(i= .int .i64 1∧jv w1 p z lab pv qs1 (n+700000) c s 0 wr)) (fun i _=>1-(intOf i).toNat)
 case atStart=>exact .inl ⟨rfl,rfl⟩
 obtain ⟨rfl,hwr⟩|⟨rfl,hto⟩:=hrel
 ·subst hwr
  obtain ⟨⟨c10,c11,c13⟩,-⟩:=kK A.out GB.out hg (Fr.refl _ _)
  go_wp2_with fail
  refine (uq A.out.q rT.1).mono ?_;rintro e v1 ⟨rfl,f1⟩;rw [if_neg (by rw [rT.2.2.1];decide)];obtain ⟨A1,GB1⟩:=aN (A.out.au f1) (GB.out.fr f1 id);clear c10 c11 c13;have hcl:∀V,Fr (fun b=>lab b≠none) v1 V→V.cell? ⟨p,10,none⟩=some (.pointer (some ⟨z,0,none⟩))∧V.cell? ⟨p,11,none⟩=some (.int .i64 1)∧V.cell? ⟨p,13,none⟩=some (.int .i64 0)∧V.cell? ⟨g,0,none⟩=some (.int .i64 1)∧V.cell? ⟨g,1,none⟩=some (.int .i64 0)∧V.cell? ⟨g,2,none⟩=some (.int .i64 0)∧V.cell? ⟨g,3,none⟩=some (.int .i64 0)∧V.cell? ⟨g,4,none⟩=some (.int .i64 1)∧V.cell? ⟨g,5,none⟩=some (.int .i64 0)∧V.cell? ⟨g,6,none⟩=some (.int .i64 0)∧V.cell? ⟨g,7,none⟩=some (.int .i64 0)∧V.cell? ⟨g,8,none⟩=some (.int .i64 0):=fun V hV=>by
   obtain ⟨⟨a1,a2,a3⟩,b1⟩:=kK A1.out GB1.out hg hV;exact ⟨a1,a2,a3,b1.cell 0,b1.cell 1,b1.cell 2,b1.cell 3,b1.cell 4,b1.cell 5,b1.cell 6,b1.cell 7,b1.cell 8⟩
  have hc0:∀V,Fr No v1 V→V.cell? ⟨p,10,none⟩=some (.pointer (some ⟨z,0,none⟩))∧V.cell? ⟨p,11,none⟩=some (.int .i64 1)∧V.cell? ⟨p,13,none⟩=some (.int .i64 0)∧V.cell? ⟨g,0,none⟩=some (.int .i64 1)∧V.cell? ⟨g,1,none⟩=some (.int .i64 0)∧V.cell? ⟨g,2,none⟩=some (.int .i64 0)∧V.cell? ⟨g,3,none⟩=some (.int .i64 0)∧V.cell? ⟨g,4,none⟩=some (.int .i64 1)∧V.cell? ⟨g,5,none⟩=some (.int .i64 0)∧V.cell? ⟨g,6,none⟩=some (.int .i64 0)∧V.cell? ⟨g,7,none⟩=some (.int .i64 0)∧V.cell? ⟨g,8,none⟩=some (.int .i64 0):=fun V hV=>hcl V (hV.mono fun _ h=>h.elim);obtain ⟨c10,c11,c13,x0,x1,x2,x3,x4,x5,x6,x7,x8⟩:=hcl _ (Fr.refl _ _);have hup:=fun V (hV:Fr No v1 V)=>ap9 (A1.out.au hV);have am5:=fun V (hV:Fr No v1 V)=>agf (A1.out.au hV) rT.1 rT.2.2.2.1;have hdo:=fun V (hV:Fr No v1 V)=>(acn (A1.out.au hV) oy).mono fun e w' ⟨h1,h2⟩=>(⟨h1,(hV.mono fun _ h=>h.elim:Fr (fun b=>lab b≠none) v1 V).trans h2.choose_spec.2.2 fun b hb=> .inl hb,jv.base hV h2⟩:e=Ending.returned (.int .i64 0)∧Fr (fun b=>lab b≠none) v1 w'∧jv v1 p z lab pv qs1 (n+700000) c s 0 w');obtain ⟨HC1,HC0,HUP,HBE,HDO⟩:=jq hcl hc0 hup am5 hdo;clear hcl hc0 hup am5 hdo
  go_upto_region 4 with fail
  go_cut [26] from 13 to 26 (fun x wx=>x= .bool false∧Fr No v1 wx)
  case first=>
   go_quiet ((go_at_call 150;exact dK (HUP.out _ ((Fr.refl No v1).drewN _))))
   go_wp2_with fail
   go_meet
   exact ⟨rfl,(Fr.refl No v1).drewN _⟩
  clear c10 c11 c13 x0 x1 x2 x3 x4 x5 x6 x7 x8;obtain ⟨rfl,f2⟩:=hcut;obtain ⟨c10,c11,c13,x0,x1,x2,x3,x4,x5,x6,x7,x8⟩:=HC0.out _ f2
  go_upto_region 7 with fail
  have hc2:∀V,Fr (fun b=>lab b≠none) wc V→V.cell? ⟨p,10,none⟩=some (.pointer (some ⟨z,0,none⟩)):=fun V hV=>(HC1.out V ((f2.mono fun _ h=>h.elim:Fr (fun b=>lab b≠none) v1 wc).trans hV fun b hb=> .inl hb)).1;have aud:=fun V (hV:Fr No wc V)=>(HBE.out V (f2.ah hV)).mono fun e w' ⟨h1,h2⟩=>(⟨h1,hV.ah h2⟩:e=Ending.returned (.int .i64 0)∧Fr No wc w');have at1:=fun V (hV:Fr No wc V)=>(acn ((A1.out.au f2).au hV) oy).mono fun e w' ⟨h1,h2⟩=>(⟨h1,(hV.mono fun _ h=>h.elim:Fr (fun b=>lab b≠none) wc V).trans h2.choose_spec.2.2 fun b hb=> .inl hb,jv.base f1 (jv.base f2 (jv.base hV h2))⟩:e=Ending.returned (.int .i64 0)∧Fr (fun b=>lab b≠none) wc w'∧jv wr p z lab pv qs1 (n+700000) c s 0 w');obtain ⟨HC2,HB2,HD2⟩:=bC hc2 aud at1;clear hc2 aud at1
  go_cut [] from 48 to 55 (fun wx=>jv wr p z lab pv qs1 (n+700000) c s 0 wx)
  case first=>
   go_region_held3 (fun V=>V.cell? ⟨p,10,none⟩=some (.pointer (some ⟨z,0,none⟩))) ((refine HC2.out _ ?_;first|((with_reducible ((repeat (first|assumption|exact Fr.refl _ _|refine Fr.alloc ?_ _|refine Fr.drew ?_|refine Fr.drewN ?_ _|refine Fr.setCell ?_ (.inr (Nat.le_refl _)) _));done)))|exact Fr.mono (F:=No) (by with_reducible ((repeat (first|assumption|exact Fr.refl _ _|refine Fr.alloc ?_ _|refine Fr.drew ?_|refine Fr.drewN ?_ _));done)) fun _ h=>h.elim)) (first|(go_at_call 154;refine (HB2.out _ (by with_reducible ((repeat (first|assumption|exact Fr.refl _ _|refine Fr.alloc ?_ _|refine Fr.drew ?_|refine Fr.drewN ?_ _));done))).mono ?_;rintro e v2 ⟨rfl,f3⟩)|(go_at_call 151;refine (HD2.out _ (by with_reducible ((repeat (first|assumption|exact Fr.refl _ _|refine Fr.alloc ?_ _|refine Fr.drew ?_|refine Fr.drewN ?_ _));done))).mono ?_;rintro e v3 ⟨rfl,g3,t3⟩;have T3:=O t3;clear t3))
   all_goals go_wp2_with fail
   all_goals go_meet
   all_goals exact T3.out
  clear c10 c11 c13 x0 x1 x2 x3 x4 x5 x6 x7 x8;have HT:=O hcut;obtain ⟨dW,A3,e3,g3⟩:=hcut
  rename_i wc0
  have hc3:∀V,Fr No wc V→V.cell? ⟨p,10,none⟩=some (.pointer (some ⟨z,0,none⟩))∧V.cell? ⟨p,11,none⟩=some (.int .i64 1)∧V.cell? ⟨p,13,none⟩=some (.int .i64 0):=fun V hV=>⟨(A3.au hV).blk.cell 10,(A3.au hV).blk.cell 11,(A3.au hV).blk.cell 13⟩;have hfl:=fun V (hV:Fr No wc V)=>pY (A3.au hV).q wH.2.1 1;obtain ⟨c10,c11,c13⟩:=hc3 _ (Fr.refl _ _);obtain ⟨HC3,HFL⟩:=aN hc3 hfl;clear hc3 hfl A3 e3 g3
  go_upto_region 8 with fail
  go_region_held3 (fun V=>V.cell? ⟨p,10,none⟩=some (.pointer (some ⟨z,0,none⟩))∧V.cell? ⟨p,11,none⟩=some (.int .i64 1)∧V.cell? ⟨p,13,none⟩=some (.int .i64 0)) ((refine HC3.out _ ?_;(with_reducible ((repeat (first|assumption|exact Fr.refl _ _|refine Fr.alloc ?_ _|refine Fr.drew ?_|refine Fr.drewN ?_ _|refine Fr.setCell ?_ (.inr (Nat.le_refl _)) _));done)))) (first|(go_at_call 152;refine (HFL.out _ (by with_reducible ((repeat (first|assumption|exact Fr.refl _ _|refine Fr.alloc ?_ _|refine Fr.drew ?_|refine Fr.drewN ?_ _));done))).mono ?_;rintro e w5 ⟨rfl,rfl⟩))
  go_wp2_with fail
  go_roundw
  case rel=>exact .inr ⟨rfl,HT.out.then A.out.q.lt fun l a=>a.self ((by repeat (first|assumption|exact Fr.refl _ _|refine Fr.drew ?_)))⟩
  case measure=>simp [intOf]
 ·have HTO:=O hto
  obtain ⟨cZ,A_,e1,g1⟩:=hto;have hgl:g<w1.heap.size:=GB.out.lt;have hg:cZ g=none:=(e1 g hgl).trans hg;obtain ⟨GB,A⟩:=aN (GB.out.fr g1 (fun hn=>hn (by assumption))) A_;clear A_;obtain ⟨⟨c10,c11,c13⟩,-⟩:=kK A.out GB.out hg (Fr.refl _ _)
  go_wp2_with fail
  refine (uq A.out.q wH.1).mono ?_;rintro e v1 ⟨rfl,f1⟩;rw [if_pos wH.2.2.1];obtain ⟨A1,GB1⟩:=aN (A.out.au f1) (GB.out.fr f1 id);clear c10 c11 c13;have hcl:∀V,Fr (fun b=>cZ b≠none) v1 V→V.cell? ⟨p,10,none⟩=some (.pointer (some ⟨z,0,none⟩))∧V.cell? ⟨p,11,none⟩=some (.int .i64 1)∧V.cell? ⟨p,13,none⟩=some (.int .i64 0)∧V.cell? ⟨g,0,none⟩=some (.int .i64 1)∧V.cell? ⟨g,1,none⟩=some (.int .i64 0)∧V.cell? ⟨g,2,none⟩=some (.int .i64 0)∧V.cell? ⟨g,3,none⟩=some (.int .i64 0)∧V.cell? ⟨g,4,none⟩=some (.int .i64 1)∧V.cell? ⟨g,5,none⟩=some (.int .i64 0)∧V.cell? ⟨g,6,none⟩=some (.int .i64 0)∧V.cell? ⟨g,7,none⟩=some (.int .i64 0)∧V.cell? ⟨g,8,none⟩=some (.int .i64 0):=fun V hV=>by
   obtain ⟨⟨a1,a2,a3⟩,b1⟩:=kK A1.out GB1.out hg hV;exact ⟨a1,a2,a3,b1.cell 0,b1.cell 1,b1.cell 2,b1.cell 3,b1.cell 4,b1.cell 5,b1.cell 6,b1.cell 7,b1.cell 8⟩
  obtain ⟨c10,c11,c13,x0,x1,x2,x3,x4,x5,x6,x7,x8⟩:=hcl _ (Fr.refl _ _);have hdo:=fun V (hV:Fr No v1 V)=>(af3 (A1.out.au hV) oy).mono fun e w' ⟨h1,h2⟩=>(⟨h1,(hV.mono fun _ h=>h.elim:Fr (fun b=>cZ b≠none) v1 V).trans h2.choose_spec.2.2 fun b hb=> .inl hb,jv.base hV h2⟩:e=Ending.returned (.int .i64 0)∧Fr (fun b=>cZ b≠none) v1 w'∧jv v1 p z cZ pv qs2 ((n+700000)+700000) c s 0 w');have hup:=fun V (hV:Fr No v1 V)=>aji (A1.out.au hV);obtain ⟨HC1,HDO,HUP⟩:=bC hcl hdo hup;clear hcl hdo hup
  go_upto_region 4 with fail
  go_cut [26] from 13 to 26 (fun x wx=>x= .bool true∧jv v1 p z cZ pv qs2 ((n+700000)+700000) c s 0 wx)
  case first=>
   go_region_held3 (fun V=>V.cell? ⟨p,10,none⟩=some (.pointer (some ⟨z,0,none⟩))∧V.cell? ⟨p,11,none⟩=some (.int .i64 1)∧V.cell? ⟨p,13,none⟩=some (.int .i64 0)∧V.cell? ⟨g,0,none⟩=some (.int .i64 1)∧V.cell? ⟨g,1,none⟩=some (.int .i64 0)∧V.cell? ⟨g,2,none⟩=some (.int .i64 0)∧V.cell? ⟨g,3,none⟩=some (.int .i64 0)∧V.cell? ⟨g,4,none⟩=some (.int .i64 1)∧V.cell? ⟨g,5,none⟩=some (.int .i64 0)∧V.cell? ⟨g,6,none⟩=some (.int .i64 0)∧V.cell? ⟨g,7,none⟩=some (.int .i64 0)∧V.cell? ⟨g,8,none⟩=some (.int .i64 0)) ((refine HC1.out _ ?_;(with_reducible ((repeat (first|assumption|exact Fr.refl _ _|refine Fr.alloc ?_ _|refine Fr.drew ?_|refine Fr.drewN ?_ _|refine Fr.setCell ?_ (.inr (Nat.le_refl _)) _));done)))) (first|(go_at_call 150;refine (HUP.out _ (by with_reducible ((repeat (first|assumption|exact Fr.refl _ _|refine Fr.alloc ?_ _|refine Fr.drew ?_|refine Fr.drewN ?_ _));done))).mono ?_;rintro e w5 ⟨rfl,rfl⟩)|(go_at_call 151;refine (HDO.out _ (by with_reducible ((repeat (first|assumption|exact Fr.refl _ _|refine Fr.alloc ?_ _|refine Fr.drew ?_|refine Fr.drewN ?_ _));done))).mono ?_;rintro e v2 ⟨rfl,g2,t2⟩;have T2:=O t2;clear t2))
   all_goals go_wp2_with fail
   all_goals go_meet
   all_goals exact ⟨rfl,T2.out⟩
  clear c10 c11 c13 x0 x1 x2 x3 x4 x5 x6 x7 x8;obtain ⟨rfl,T2⟩:=hcut;have HT2:=O T2;obtain ⟨dW,A3,e3,g3⟩:=T2;have hc3:∀V,Fr No wc V→V.cell? ⟨p,10,none⟩=some (.pointer (some ⟨z,0,none⟩))∧V.cell? ⟨p,11,none⟩=some (.int .i64 1)∧V.cell? ⟨p,13,none⟩=some (.int .i64 0):=fun V hV=>⟨(A3.au hV).blk.cell 10,(A3.au hV).blk.cell 11,(A3.au hV).blk.cell 13⟩;have hfl:=fun V (hV:Fr No wc V)=>pY (A3.au hV).q rR.2.1 1;have hcm:∀V,Fr No wc V→Calls Tryz.prog 153 #[.pointer (some ⟨z,0,none⟩),.int .i64 0] V fun e w' =>e= .returned (.int .i64 1)∧V=w' :=fun V hV=>by
   have hq:=wI (A3.au hV).q 0 dcd;rw [show (((qs2.rs 0).commit:Nat):Int)=1 from by rw [rR.2.2.2.1];rfl] at hq;exact hq
  obtain ⟨c10,c11,c13⟩:=hc3 _ (Fr.refl _ _);obtain ⟨HC3,HFL,HCM⟩:=bC hc3 hfl hcm;clear hc3 hfl hcm A3 e3 g3
  go_upto_region 5 with fail
  go_region_held3 (fun V=>V.cell? ⟨p,10,none⟩=some (.pointer (some ⟨z,0,none⟩))∧V.cell? ⟨p,11,none⟩=some (.int .i64 1)∧V.cell? ⟨p,13,none⟩=some (.int .i64 0)) ((refine HC3.out _ ?_;(with_reducible ((repeat (first|assumption|exact Fr.refl _ _|refine Fr.alloc ?_ _|refine Fr.drew ?_|refine Fr.drewN ?_ _|refine Fr.setCell ?_ (.inr (Nat.le_refl _)) _));done)))) (first|(go_at_call 152;refine (HFL.out _ (by with_reducible ((repeat (first|assumption|exact Fr.refl _ _|refine Fr.alloc ?_ _|refine Fr.drew ?_|refine Fr.drewN ?_ _));done))).mono ?_;rintro e w5 ⟨rfl,rfl⟩))
  have f5:=(Fr.refl No wc).drew;generalize wc.drew=w6 at f5 ⊢;clear c10 c11 c13;obtain ⟨c10,c11,c13⟩:=HC3.out _ f5
  go_upto_region 6 with fail
  go_region_held3 (fun V=>V.cell? ⟨p,10,none⟩=some (.pointer (some ⟨z,0,none⟩))∧V.cell? ⟨p,11,none⟩=some (.int .i64 1)∧V.cell? ⟨p,13,none⟩=some (.int .i64 0)) ((refine HC3.out _ ?_;(with_reducible ((repeat (first|assumption|exact Fr.refl _ _|refine Fr.alloc ?_ _|refine Fr.drew ?_|refine Fr.drewN ?_ _|refine Fr.setCell ?_ (.inr (Nat.le_refl _)) _));done)))) (first|(go_at_call 153;refine (HCM.out _ (by with_reducible ((repeat (first|assumption|exact Fr.refl _ _|refine Fr.alloc ?_ _|refine Fr.drew ?_|refine Fr.drewN ?_ _));done))).mono ?_;rintro e w5 ⟨rfl,rfl⟩))
  go_wp2_with fail
  go_ret
  refine ⟨rfl,jv.base F0.out ?_⟩;have hfin:jv wr p z cZ pv qs2 (n+700000+700000) c s 0 w6.drew:=jv.base f1 ((HT2.out.then A1.out.q.lt fun l a=>a.self ((by repeat (first|assumption|exact Fr.refl _ _|refine Fr.drew ?_)))));rw [show n+700000+700000=n+1400000 from by omega] at hfin;obtain ⟨l3,a3,e3,g3⟩:=hfin;refine ⟨l3,a3,fun b hb=>(e3 b (nll hb g1.size)).trans (e1 b hb),g1.trans g3 fun b hb=> ?_⟩
  rcases Nat.lt_or_ge b w1.heap.size with h|h
  ·rw [e1 b h] at hb;exact .inl hb
  ·exact .inr h
end
section
set_option linter.unusedSimpArgs false
variable {w w' :World}{F G:Nat→Prop}
theorem aA.old {e:TypeId}{size n B:Nat}{v:Value}{xs:List Value}(h:aA w (fun b=>B≤b) e size v n xs):aA w (fun b=>B≤b∧b<w.heap.size) e size v n xs:=⟨h.1,fun g hg=>⟨h.2 g hg,h.lt g hg⟩⟩
theorem eD.old {s:Sx}{k B:Nat}(h:eD w (fun b=>B≤b) s k):eD w (fun b=>B≤b∧b<w.heap.size) s k:=⟨h.t.old,h.c.old⟩
theorem eB.old {c:Cx}{B:Nat}(h:eB w (fun b=>B≤b) c):eB w (fun b=>B≤b∧b<w.heap.size) c:=⟨h.z.old,h.k.old,h.t.old,h.v.old,h.r.old,h.o.old⟩
set_option maxHeartbeats 8000000 in
theorem aey {bz cz bc cc bt ct bv cv br cr bo co:Nat}(hc:eB w F ⟨bz,cz,bc,cc,bt,ct,bv,cv,br,cr,bo,co⟩):Calls Tryz.prog 67 #[.agg #[.int .i64 2,.slice (some ⟨bz,0,none⟩) 2 cz,.slice (some ⟨bc,0,none⟩) 2 cc,.slice (some ⟨bt,0,none⟩) 1 ct,.slice (some ⟨bv,0,none⟩) 1 cv,.slice (some ⟨br,0,none⟩) 1 cr,.slice (some ⟨bo,0,none⟩) 1 co,.int .i64 1,.int .i64 20,.int .i64 0]] w fun e w' =>∃p z lab pv c' s,e= .returned (.tuple #[.pointer (some ⟨p,0,none⟩),.int .i64 0])∧jC w' p z lab pv qs0 0 c' s 0∧(∀b j,lab b=some j→w.heap.size≤b)∧eB w' (fun b=>w.heap.size≤b∧b<w'.heap.size) c'∧w.heap.size≤p∧Fr No w w' :=by
 have hlc:=hc.lts;have hcx:=fun V (hV:Fr No w V)=>hc.au hV;clear hc;simp only at hlc;obtain ⟨g1,w1,hg1,hw1,fa1,hz1,b1⟩:=mk1 w #[.int .i64 2,.slice (some ⟨bz,0,none⟩) 2 cz,.slice (some ⟨bc,0,none⟩) 2 cc,.slice (some ⟨bt,0,none⟩) 1 ct,.slice (some ⟨bv,0,none⟩) 1 cv,.slice (some ⟨br,0,none⟩) 1 cr,.slice (some ⟨bo,0,none⟩) 1 co,.int .i64 1,.int .i64 20,.int .i64 0] TCf;have FB1:Fr No w w1:=fa1;have hal:∀V,Fr No w1 V→V.cell? ⟨g1,0,none⟩=some (.int .i64 2)∧V.cell? ⟨g1,1,none⟩=some (.slice (some ⟨bz,0,none⟩) 2 cz)∧V.cell? ⟨g1,2,none⟩=some (.slice (some ⟨bc,0,none⟩) 2 cc)∧V.cell? ⟨g1,3,none⟩=some (.slice (some ⟨bt,0,none⟩) 1 ct)∧V.cell? ⟨g1,4,none⟩=some (.slice (some ⟨bv,0,none⟩) 1 cv)∧V.cell? ⟨g1,5,none⟩=some (.slice (some ⟨br,0,none⟩) 1 cr)∧V.cell? ⟨g1,6,none⟩=some (.slice (some ⟨bo,0,none⟩) 1 co)∧V.cell? ⟨g1,7,none⟩=some (.int .i64 1)∧V.cell? ⟨g1,8,none⟩=some (.int .i64 20)∧V.cell? ⟨g1,9,none⟩=some (.int .i64 0):=fun V hV=>⟨(b1.fr hV id).cell 0,(b1.fr hV id).cell 1,(b1.fr hV id).cell 2,(b1.fr hV id).cell 3,(b1.fr hV id).cell 4,(b1.fr hV id).cell 5,(b1.fr hV id).cell 6,(b1.fr hV id).cell 7,(b1.fr hV id).cell 8,(b1.fr hV id).cell 9⟩;have HAL:=O hal;have fP:g1<w1.heap.size:=b1.lt;have jQ:w.heap.size≤g1:=by omega
 have hsB:w.heap.size≤w1.heap.size:=FB1.size;obtain ⟨FB,HCX,B1_⟩:=bC FB1 hcx b1;clear hal fa1 b1 FB1 hcx;obtain ⟨HW1,HG1,HZ1⟩:=bC hw1 hg1 hz1;clear hz1 hg1 hw1
 go_in
 go_upto_region 1 with fail
 rw [←HW1.out]
 try rw [←HG1.out]
 clear HW1 HG1 HZ1;obtain ⟨q0_,q1_,q2_,q3_,q4_,q5_,q6_,q7_,q8_,q9_⟩:=HAL.out _ (Fr.refl _ _)
 go_wp2_with fail
 refine (ad3 (HCX.out _ FB.out)).mono ?_;rintro e v ⟨rfl,f_⟩;clear q0_ q1_ q2_ q3_ q4_ q5_ q6_ q7_ q8_ q9_;have f:=f_;clear f_;obtain ⟨q0_,q1_,q2_,q3_,q4_,q5_,q6_,q7_,q8_,q9_⟩:=HAL.out _ f
 go_wp2_with fail
 refine (aps 1 _ dcd dcd).mono ?_;rintro e v2 ⟨z,lab,pv,rfl,hq,hlo,f2⟩;have f_2:=f.ah f2;clear q0_ q1_ q2_ q3_ q4_ q5_ q6_ q7_ q8_ q9_;obtain ⟨q0_,q1_,q2_,q3_,q4_,q5_,q6_,q7_,q8_,q9_⟩:=HAL.out _ f_2;obtain ⟨HQ,HLO⟩:=aN hq hlo;clear hq hlo
 go_wp2_with fail
 refine (zh (HCX.out _ (FB.out.ah f_2))).mono ?_;rintro e v3 ⟨⟨az,ez,ac,ec,at_,et,av,ev,ar,er,ao,eo⟩,rfl,hc3,f3⟩;have f_3:=f_2.ah f3;clear q0_ q1_ q2_ q3_ q4_ q5_ q6_ q7_ q8_ q9_;have bx:=B1_.out.fr f_3 id;obtain ⟨⟨x0,x1,x2,x3,x4,x5,x6,x7,x8,x9⟩,y0,y1,y2,y3,y4,y5,y6,y7,y8,y9⟩:=jr bx;have awl:=hc3.lts;simp only at awl;have atj:=(hc3.z.cells dcd).2.1;have ato:=(hc3.k.cells dcd).2.1;have aqv:=(hc3.t.cells dcd).2.1;have atl:=(hc3.v.cells dcd).2.1;have atm:=(hc3.r.cells dcd).2.1;have atn:=(hc3.o.cells dcd).2.1;obtain ⟨BX,HC3⟩:=aN bx hc3;have hs2:=f_2.size;clear bx hc3
 go_upto_region 8 with fail
 have hbw:=((((((((((BX.out.aC 0 (.int .i64 2)).aC 1 (.slice (some ⟨az,0,none⟩) 2 ez)).aC 2 (.slice (some ⟨ac,0,none⟩) 2 ec)).aC 3 (.slice (some ⟨at_,0,none⟩) 1 et)).aC 4 (.slice (some ⟨av,0,none⟩) 1 ev)).aC 5 (.slice (some ⟨ar,0,none⟩) 1 er)).aC 6 (.slice (some ⟨ao,0,none⟩) 1 eo)).aC 7 (.int .i64 1)).aC 8 (.int .i64 20)).aC 9 (.int .i64 0));have hfw:=(((((((((((Fr.refl (fun b=>b=g1) v3).setCell (p:=⟨g1,0,none⟩) (.inl rfl) (.int .i64 2)).setCell (p:=⟨g1,1,none⟩) (.inl rfl) (.slice (some ⟨az,0,none⟩) 2 ez)).setCell (p:=⟨g1,2,none⟩) (.inl rfl) (.slice (some ⟨ac,0,none⟩) 2 ec)).setCell (p:=⟨g1,3,none⟩) (.inl rfl) (.slice (some ⟨at_,0,none⟩) 1 et)).setCell (p:=⟨g1,4,none⟩) (.inl rfl) (.slice (some ⟨av,0,none⟩) 1 ev)).setCell (p:=⟨g1,5,none⟩) (.inl rfl) (.slice (some ⟨ar,0,none⟩) 1 er)).setCell (p:=⟨g1,6,none⟩) (.inl rfl) (.slice (some ⟨ao,0,none⟩) 1 eo)).setCell (p:=⟨g1,7,none⟩) (.inl rfl) (.int .i64 1)).setCell (p:=⟨g1,8,none⟩) (.inl rfl) (.int .i64 20)).setCell (p:=⟨g1,9,none⟩) (.inl rfl) (.int .i64 0));clear x0 x1 x2 x3 x4 x5 x6 x7 x8 x9 y0 y1 y2 y3 y4 y5 y6 y7 y8 y9;generalize World.setCell (World.setCell (World.setCell (World.setCell (World.setCell (World.setCell (World.setCell (World.setCell (World.setCell (World.setCell (v3) _ _) _ _) _ _) _ _) _ _) _ _) _ _) _ _) _ _) _ _=W at hbw hfw ⊢;have hb1:Blk W g1 TCf #[.int .i64 2,.slice (some ⟨az,0,none⟩) 2 ez,.slice (some ⟨ac,0,none⟩) 2 ec,.slice (some ⟨at_,0,none⟩) 1 et,.slice (some ⟨av,0,none⟩) 1 ev,.slice (some ⟨ar,0,none⟩) 1 er,.slice (some ⟨ao,0,none⟩) 1 eo,.int .i64 1,.int .i64 20,.int .i64 0]:=Blk.cv hbw (by simp)
 have hc5:eB W (fun b=>v2.heap.size≤b∧b<W.heap.size) ⟨az,ez,ac,ec,at_,et,av,ev,ar,er,ao,eo⟩:=eB.old (HC3.out.iE hfw (by simp only;omega));clear hbw;have hsw:=hfw.size;have hs3:=f3.size;have hkp:∀V,Fr No W V→V.cell? ⟨g1,0,none⟩=some (.int .i64 2)∧V.cell? ⟨g1,1,none⟩=some (.slice (some ⟨az,0,none⟩) 2 ez)∧V.cell? ⟨g1,2,none⟩=some (.slice (some ⟨ac,0,none⟩) 2 ec)∧V.cell? ⟨g1,3,none⟩=some (.slice (some ⟨at_,0,none⟩) 1 et)∧V.cell? ⟨g1,4,none⟩=some (.slice (some ⟨av,0,none⟩) 1 ev)∧V.cell? ⟨g1,5,none⟩=some (.slice (some ⟨ar,0,none⟩) 1 er)∧V.cell? ⟨g1,6,none⟩=some (.slice (some ⟨ao,0,none⟩) 1 eo)∧V.cell? ⟨g1,7,none⟩=some (.int .i64 1)∧V.cell? ⟨g1,8,none⟩=some (.int .i64 20)∧V.cell? ⟨g1,9,none⟩=some (.int .i64 0):=fun V hV=>(jr (hb1.fr hV id)).1;have hsn:=fun V (hV:Fr No W V)=>(vX (hc5.au hV)).mono fun e w' ⟨s',h1,h2,h3⟩=>(⟨s',h1,h2.mono fun b hb=>Nat.le_trans hV.size hb,hV.ah h3⟩:∃s' :Sx,e=Ending.returned (.agg (s'.arr 0))∧eD w' (fun b=>W.heap.size≤b) s' 0∧Fr No W w');obtain ⟨x0,x1,x2,x3,x4,x5,x6,x7,x8,x9⟩:=hkp _ (Fr.refl _ _);obtain ⟨HKP,HSN,HC5,HFW⟩:=fV hkp hsn hc5 hfw;clear hkp hsn hc5 hfw hb1
 go_cut [2,3] from 24 to 34 (fun x y wx=>∃p s,x= .pointer (some ⟨p,0,none⟩)∧y= .int .i64 0∧W.heap.size≤p∧Blk wx p an0 (plC ⟨az,ez,ac,ec,at_,et,av,ev,ar,er,ao,eo⟩ z s 0)∧eD wx (fun b=>W.heap.size≤b∧b≠p) s 0∧Fr No W wx)
 case first=>
  go_region_held3 (fun V=>V.cell? ⟨g1,0,none⟩=some (.int .i64 2)∧V.cell? ⟨g1,1,none⟩=some (.slice (some ⟨az,0,none⟩) 2 ez)∧V.cell? ⟨g1,2,none⟩=some (.slice (some ⟨ac,0,none⟩) 2 ec)∧V.cell? ⟨g1,3,none⟩=some (.slice (some ⟨at_,0,none⟩) 1 et)∧V.cell? ⟨g1,4,none⟩=some (.slice (some ⟨av,0,none⟩) 1 ev)∧V.cell? ⟨g1,5,none⟩=some (.slice (some ⟨ar,0,none⟩) 1 er)∧V.cell? ⟨g1,6,none⟩=some (.slice (some ⟨ao,0,none⟩) 1 eo)∧V.cell? ⟨g1,7,none⟩=some (.int .i64 1)∧V.cell? ⟨g1,8,none⟩=some (.int .i64 20)∧V.cell? ⟨g1,9,none⟩=some (.int .i64 0)) ((refine HKP.out _ ?_;exact (by with_reducible ((repeat (first|assumption|exact Fr.refl _ _|refine Fr.alloc ?_ _|refine Fr.drew ?_|refine Fr.drewN ?_ _));done)))) (first|(go_at_call 99;refine (HSN.out _ (by with_reducible ((repeat (first|assumption|exact Fr.refl _ _|refine Fr.alloc ?_ _|refine Fr.drew ?_|refine Fr.drewN ?_ _));done))).mono ?_;rintro e v4 ⟨⟨bt2,ct2,bc2,cc2⟩,rfl,hs4,f4⟩))
  all_goals go_wp2_with fail
  all_goals go_meet
  all_goals exact ⟨v4.heap.size,⟨bt2,ct2,bc2,cc2⟩,rfl,rfl,f4.size,Blk.new _ _ _,((hs4.old.au (aj _ _)).mono fun b hb=>⟨hb.1,by omega⟩),f4.alloc _⟩
 obtain ⟨p,s,rfl,rfl,hp,hb,hs,f5⟩:=hcut;clear x0 x1 x2 x3 x4 x5 x6 x7 x8 x9;have f_5:Fr No w wc:=(((FB.out.ah f_3).aD HFW.out fun b hb=>by have hb:b=g1:=hb;omega).ah f5);have hqW:QAt wc lab z pv qs0 0:=((HQ.out.au f3).fr HFW.out fun b hb=>by
  have hb:b=g1:=hb
  cases hj:lab b with
  |none=>rfl
  |some j=>have:=HLO.out b j hj;have:=f.size;omega).au f5
 have hnone:∀b,v2.heap.size≤b→lab b=none:=fun b hb=>by
  cases hj:lab b with
  |none=>rfl
  |some j=>have:=HQ.out.lt b j hj;omega
 have hp1:=hb.lt;have hc6:=HC5.out.au f5;obtain ⟨HB,HS,HQW,HN,HC6⟩:=jq hb hs hqW hnone hc6;clear hb hs hqW hnone hc6
 go_wp2_with fail
 refine bodyPost_ret (results_tmp2 rfl _ _ _) rfl ⟨p,z,lab,pv,⟨az,ez,ac,ec,at_,et,av,ev,ar,er,ao,eo⟩,s,rfl,⟨HN.out p oy,HB.out,HQW.out,HC6.out.mono fun b hb=>⟨HN.out b hb.1,by omega⟩,HS.out.mono fun b hb=>⟨HN.out b oy,hb.2⟩⟩,fun b j hb=>by have:=HLO.out b j hb;have:=f.size;have:=FB.out.size;omega,HC6.out.mono fun b hb=>⟨by have:=FB.out.size;omega,by omega⟩,by have:=FB.out.size;omega,f_5⟩
end
section
set_option linter.unusedSimpArgs false
variable {w w' :World}{F G:Nat→Prop}
variable {lab lab' :Nat→Option Nat}{p z n m k:Nat}{pv:Nat→Nat}{q:Qs}{c:Cx}{s:Sx}
set_option maxHeartbeats 8000000 in
theorem yB (h:jC w p z lab pv q n c s 0):Calls Tryz.prog 68 #[.pointer (some ⟨p,0,none⟩)] w fun e w' =>∃s' :Sx,e= .returned (.agg (s'.arr 0))∧eD w' (fun b=>w.heap.size≤b) s' 0∧Fr No w w' :=by
 have hl:=h.s.lts;obtain ⟨g1,hg1⟩:∃g,g=w.heap.size:=⟨_,rfl⟩;obtain ⟨w1,hw1⟩:∃W,W=w.alloc (.cells #[.int .i64 0,.int .i64 0,.slice none 0 0,.slice none 0 0,.int .i64 0,.int .i64 0,.int .i64 0,.int .i64 0] TSg):=⟨_,rfl⟩;obtain ⟨g2,hg2⟩:∃g,g=w1.heap.size:=⟨_,rfl⟩;obtain ⟨w2,hw2⟩:∃W,W=w1.alloc (.cells #[.int .i64 0,.int .i64 0,.slice (some ⟨s.st,0,none⟩) 1 s.kt,.slice (some ⟨s.sc,0,none⟩) 2 s.kc,.int .i64 1,.int .i64 0,.int .i64 0,.int .i64 0] TSg):=⟨_,rfl⟩;have f1:Fr No w w1:=by rw [hw1];exact aj _ _
 have f2:Fr No w1 w2:=by rw [hw2];exact aj _ _
 have z1:w1.heap.size=g1+1:=by rw [hw1,hg1];simp
 have b1:Blk w2 g1 TSg #[.int .i64 0,.int .i64 0,.slice none 0 0,.slice none 0 0,.int .i64 0,.int .i64 0,.int .i64 0,.int .i64 0]:=(by rw [hw1,hg1];exact Blk.new _ _ _:Blk w1 g1 TSg #[.int .i64 0,.int .i64 0,.slice none 0 0,.slice none 0 0,.int .i64 0,.int .i64 0,.int .i64 0,.int .i64 0]).fr f2 id;have b2:Blk w2 g2 TSg #[.int .i64 0,.int .i64 0,.slice (some ⟨s.st,0,none⟩) 1 s.kt,.slice (some ⟨s.sc,0,none⟩) 2 s.kc,.int .i64 1,.int .i64 0,.int .i64 0,.int .i64 0]:=by rw [hw2,hg2];exact Blk.new _ _ _
 have akq:g1<g2:=by omega
 have kg:g2<w2.heap.size:=b2.lt;have hgw:w.heap.size≤g1:=by omega
 have hne1:s.st≠g2:=by omega
 have hne2:s.sc≠g2:=by omega
 have hs2:=h.s.au (f1.ah f2);have hct:=fun V (hV:Fr (fun b=>b=g2) w2 V)=>kG V (some ⟨s.st,0,none⟩) 1 s.kt (sxT 0) (fun h=>by cases h) ((hs2.off hV hne1 hne2).t.rd) rfl (by simp [sxT,Value.oneCell']) dcd;have hcc:=fun V (hV:Fr (fun b=>b=g2) w2 V)=>kH V (some ⟨s.sc,0,none⟩) 2 s.kc [.int .i64 1,.int .i64 0,.int .i64 0,.int .i64 0,.int .i64 1,.int .i64 0,.int .i64 0,.int .i64 0] (fun h=>by cases h) ((hs2.off hV hne1 hne2).c.rd) rfl (by simp [Value.oneCell']) dcd;have hp:=fun V (hV:Fr No w V)=>fI (h.au hV).blk;have hpl:=h.blk.lt;obtain ⟨_,_,_,_,_,_,_,_,_,_,_,_,p12,p13,p14,p15,p16,p17,p18,p19⟩:=hp _ (Fr.refl _ _);have ayi:p≠w.heap.size:=by omega
 obtain ⟨FB,B1,B2,HW1,HW2,HG1,HG2,HCT,HCC⟩:=akp (f1.ah f2) b1 b2 hw1 hw2 hg1 (show w.heap.size+1=g2 from by rw [hg2,z1,hg1]) hct hcc;clear h hs2 hct hcc hp f1 f2 z1 b1 b2 hw1 hw2 hg1 hg2
 go_in
 go_upto_region 2 with fail
 rw [←HW1.out,←HW2.out,HG2.out,←HG1.out];clear HW1 HW2 HG1 HG2 p12 p13 p14 p15 p16 p17 p18 p19;obtain ⟨x0,x1,x2,x3,x4,x5,x6,x7⟩:=jf B2.out;have hfz:=fun k=>(B2.out.frozen k:w2.frozen? ⟨g2,k,none⟩=false);have z02:=hfz 2;have z03:=hfz 3;clear hfz
 go_cut [] from 8 to 15 (fun wx=>agv w2 g2 0 wx)
 case first=>
  go_region_with (first|(go_at_call 100;refine (HCT.out _ (by repeat (with_reducible first|assumption|exact Fr.refl _ _|refine Fr.alloc ?_ _|refine Fr.drew ?_|refine Fr.setCell ?_ (.inl rfl) _|refine Fr.bR ?_ (by assumption)))).mono ?_;rintro e v1 ⟨A1,c1,rfl,o1,f1_⟩;have p2:=f1_.cell (p:=⟨g2,2,none⟩) (nll kg (Fr.size (F:=fun b=>b=g2) (w:=w2) (by repeat (with_reducible first|assumption|exact Fr.refl _ _|refine Fr.alloc ?_ _|refine Fr.drew ?_|refine Fr.setCell ?_ (.inl rfl) _|refine Fr.bR ?_ (by assumption))))) id;have p3:=f1_.cell (p:=⟨g2,3,none⟩) (nll kg (Fr.size (F:=fun b=>b=g2) (w:=w2) (by repeat (with_reducible first|assumption|exact Fr.refl _ _|refine Fr.alloc ?_ _|refine Fr.drew ?_|refine Fr.setCell ?_ (.inl rfl) _|refine Fr.bR ?_ (by assumption))))) id;have z2:=f1_.frozen (p:=⟨g2,2,none⟩) (nll kg (Fr.size (F:=fun b=>b=g2) (w:=w2) (by repeat (with_reducible first|assumption|exact Fr.refl _ _|refine Fr.alloc ?_ _|refine Fr.drew ?_|refine Fr.setCell ?_ (.inl rfl) _|refine Fr.bR ?_ (by assumption))))) id;have z3:=f1_.frozen (p:=⟨g2,3,none⟩) (nll kg (Fr.size (F:=fun b=>b=g2) (w:=w2) (by repeat (with_reducible first|assumption|exact Fr.refl _ _|refine Fr.alloc ?_ _|refine Fr.drew ?_|refine Fr.setCell ?_ (.inl rfl) _|refine Fr.bR ?_ (by assumption))))) id)|(go_at_call 101;refine (HCC.out _ (by repeat (with_reducible first|assumption|exact Fr.refl _ _|refine Fr.alloc ?_ _|refine Fr.drew ?_|refine Fr.setCell ?_ (.inl rfl) _|refine Fr.bR ?_ (by assumption)))).mono ?_;rintro e v2 ⟨A2,c2,rfl,o2,f2_⟩;have r2:=f2_.cell (p:=⟨g2,2,none⟩) (nll kg (Fr.size (F:=fun b=>b=g2) (w:=w2) (by repeat (with_reducible first|assumption|exact Fr.refl _ _|refine Fr.alloc ?_ _|refine Fr.drew ?_|refine Fr.setCell ?_ (.inl rfl) _|refine Fr.bR ?_ (by assumption))))) id;have r3:=f2_.cell (p:=⟨g2,3,none⟩) (nll kg (Fr.size (F:=fun b=>b=g2) (w:=w2) (by repeat (with_reducible first|assumption|exact Fr.refl _ _|refine Fr.alloc ?_ _|refine Fr.drew ?_|refine Fr.setCell ?_ (.inl rfl) _|refine Fr.bR ?_ (by assumption))))) id;have y2:=f2_.frozen (p:=⟨g2,2,none⟩) (nll kg (Fr.size (F:=fun b=>b=g2) (w:=w2) (by repeat (with_reducible first|assumption|exact Fr.refl _ _|refine Fr.alloc ?_ _|refine Fr.drew ?_|refine Fr.setCell ?_ (.inl rfl) _|refine Fr.bR ?_ (by assumption))))) id;have y3:=f2_.frozen (p:=⟨g2,3,none⟩) (nll kg (Fr.size (F:=fun b=>b=g2) (w:=w2) (by repeat (with_reducible first|assumption|exact Fr.refl _ _|refine Fr.alloc ?_ _|refine Fr.drew ?_|refine Fr.setCell ?_ (.inl rfl) _|refine Fr.bR ?_ (by assumption))))) id))
  all_goals go_wp2_with fail
  all_goals go_meet
  all_goals exact vv B2.out o1 f1_ o2 f2_
 clear x0 x1 x2 x3 x4 x5 x6 x7 z02 z03;obtain ⟨b1,c1,b2,c2,hbb,hb,hs,hf⟩:=hcut;have hb1:w2.heap.size≤b1:=(hs.t.cells dcd).2.1;have hb2:w2.heap.size≤b2:=(hs.c.cells dcd).2.1;have hbz:=B1.out.fr hf (fun e=>by have e:g1=g2:=e;omega);obtain ⟨x0,x1,x2,x3,x4,x5,x6,x7⟩:=jf hb;obtain ⟨z0,z1,z2,z3,z4,z5,z6,z7⟩:=jf hbz;have q0:=hbz.frozen 0;have q1:=hbz.frozen 1;have q2:=hbz.frozen 2;have q3:=hbz.frozen 3;have q4:=hbz.frozen 4;have q5:=hbz.frozen 5;have q6:=hbz.frozen 6;have q7:=hbz.frozen 7;obtain ⟨BZ,S,FF⟩:=bC hbz hs hf;have hgs:w2.heap.size≤wc.heap.size:=hf.size;clear hb hs hf hbz
 go_wp2_with fail
 have hfin:=kT BZ.out S.out.t S.out.c (show g1≠b1 by omega) (show g1≠b2 by omega) (.int .i64 0) (.int .i64 0) (.slice (some ⟨b1,0,none⟩) 1 c1) (.slice (some ⟨b2,0,none⟩) 2 c2) (.int .i64 1) (.int .i64 0) (.int .i64 0) (.int .i64 0);have hsB:=FB.out.size;exact bodyPost_ret (jg 2 _ hfin.1 rfl rfl) rfl ⟨⟨b1,c1,b2,c2⟩,rfl,⟨hfin.2.1.mono fun b hb=>by omega,hfin.2.2.1.mono fun b hb=>by omega⟩,((FB.out.aD FF.out fun b hb=>by have hb:b=g2:=hb;omega).aD hfin.2.2.2 fun b hb=>by have hb:b=g1:=hb;omega)⟩
end
section
set_option linter.unusedSimpArgs false
variable {w w' :World}{F G:Nat→Prop}
variable {lab lab' :Nat→Option Nat}{p z n m k:Nat}{pv:Nat→Nat}{q:Qs}{c:Cx}{s:Sx}
def agn (w:World)(p z:Nat)(lab:Nat→Option Nat)(pv:Nat→Nat)(q:Qs)(n:Nat)(c:Cx)(k:Nat)(w' :World):Prop:=
 ∃lab' s',jC w' p z lab' pv q n c s' k∧(∀b,b<w.heap.size→lab' b=lab b)∧Fr (fun b=>lab b≠none∨b=p) w w'
theorem ag5 {V:World}{k' :Nat}{s' :Sx}(h:jC V p z lab pv q n c s k)(hs:eD V (fun b=>lab b=none∧b≠p) s' k'):
  jC (World.setCell (World.setCell (World.setCell (World.setCell (World.setCell (World.setCell (World.setCell (World.setCell V ⟨p,12,none⟩ (.int .i64 0)) ⟨p,13,none⟩ (.int .i64 (k' :Int))) ⟨p,14,none⟩ (.slice (some ⟨s'.st,0,none⟩) 1 s'.kt)) ⟨p,15,none⟩ (.slice (some ⟨s'.sc,0,none⟩) 2 s'.kc)) ⟨p,16,none⟩ (.int .i64 1)) ⟨p,17,none⟩ (.int .i64 0)) ⟨p,18,none⟩ (.int .i64 0)) ⟨p,19,none⟩ (.int .i64 0)) p z lab pv q n c s' k'∧Fr (fun b=>b=p) V (World.setCell (World.setCell (World.setCell (World.setCell (World.setCell (World.setCell (World.setCell (World.setCell V ⟨p,12,none⟩ (.int .i64 0)) ⟨p,13,none⟩ (.int .i64 (k' :Int))) ⟨p,14,none⟩ (.slice (some ⟨s'.st,0,none⟩) 1 s'.kt)) ⟨p,15,none⟩ (.slice (some ⟨s'.sc,0,none⟩) 2 s'.kc)) ⟨p,16,none⟩ (.int .i64 1)) ⟨p,17,none⟩ (.int .i64 0)) ⟨p,18,none⟩ (.int .i64 0)) ⟨p,19,none⟩ (.int .i64 0)):=by
 have hf:=(((((((((Fr.refl (fun b=>b=p) V).setCell (p:=⟨p,12,none⟩) (.inl rfl) (.int .i64 0)).setCell (p:=⟨p,13,none⟩) (.inl rfl) (.int .i64 (k' :Int))).setCell (p:=⟨p,14,none⟩) (.inl rfl) (.slice (some ⟨s'.st,0,none⟩) 1 s'.kt)).setCell (p:=⟨p,15,none⟩) (.inl rfl) (.slice (some ⟨s'.sc,0,none⟩) 2 s'.kc)).setCell (p:=⟨p,16,none⟩) (.inl rfl) (.int .i64 1)).setCell (p:=⟨p,17,none⟩) (.inl rfl) (.int .i64 0)).setCell (p:=⟨p,18,none⟩) (.inl rfl) (.int .i64 0)).setCell (p:=⟨p,19,none⟩) (.inl rfl) (.int .i64 0));have hb:=((((((((h.blk.aC 12 (.int .i64 0)).aC 13 (.int .i64 (k' :Int))).aC 14 (.slice (some ⟨s'.st,0,none⟩) 1 s'.kt)).aC 15 (.slice (some ⟨s'.sc,0,none⟩) 2 s'.kc)).aC 16 (.int .i64 1)).aC 17 (.int .i64 0)).aC 18 (.int .i64 0)).aC 19 (.int .i64 0));exact ⟨⟨h.np,Blk.cv hb (by simp),h.q.fr hf fun b hb=>(by have hb:b=p:=hb;rw [hb];exact h.np),h.c.frF hf fun b hb e=>hb.2 e,hs.frF hf fun b hb e=>hb.2 e⟩,hf⟩
theorem vV {v2:World}{g B k' :Nat}{s' :Sx}{a0 a1 a2 a3 a4 a5 a6 a7:Value}(bk:Blk v2 g TSg #[a0,a1,a2,a3,a4,a5,a6,a7])(hg:B≤g)(hs:eD v2 (fun b=>g<b) s' k'):
  Blk (World.setCell (World.setCell (World.setCell (World.setCell (World.setCell (World.setCell (World.setCell (World.setCell v2 ⟨g,0,none⟩ (.int .i64 0)) ⟨g,1,none⟩ (.int .i64 (k' :Int))) ⟨g,2,none⟩ (.slice (some ⟨s'.st,0,none⟩) 1 s'.kt)) ⟨g,3,none⟩ (.slice (some ⟨s'.sc,0,none⟩) 2 s'.kc)) ⟨g,4,none⟩ (.int .i64 1)) ⟨g,5,none⟩ (.int .i64 0)) ⟨g,6,none⟩ (.int .i64 0)) ⟨g,7,none⟩ (.int .i64 0)) g TSg (s'.arr k')∧eD (World.setCell (World.setCell (World.setCell (World.setCell (World.setCell (World.setCell (World.setCell (World.setCell v2 ⟨g,0,none⟩ (.int .i64 0)) ⟨g,1,none⟩ (.int .i64 (k' :Int))) ⟨g,2,none⟩ (.slice (some ⟨s'.st,0,none⟩) 1 s'.kt)) ⟨g,3,none⟩ (.slice (some ⟨s'.sc,0,none⟩) 2 s'.kc)) ⟨g,4,none⟩ (.int .i64 1)) ⟨g,5,none⟩ (.int .i64 0)) ⟨g,6,none⟩ (.int .i64 0)) ⟨g,7,none⟩ (.int .i64 0)) (fun b=>B≤b∧b≠g) s' k'∧Fr (fun b=>b=g) v2 (World.setCell (World.setCell (World.setCell (World.setCell (World.setCell (World.setCell (World.setCell (World.setCell v2 ⟨g,0,none⟩ (.int .i64 0)) ⟨g,1,none⟩ (.int .i64 (k' :Int))) ⟨g,2,none⟩ (.slice (some ⟨s'.st,0,none⟩) 1 s'.kt)) ⟨g,3,none⟩ (.slice (some ⟨s'.sc,0,none⟩) 2 s'.kc)) ⟨g,4,none⟩ (.int .i64 1)) ⟨g,5,none⟩ (.int .i64 0)) ⟨g,6,none⟩ (.int .i64 0)) ⟨g,7,none⟩ (.int .i64 0)):=by
 have hf:=(((((((((Fr.refl (fun b=>b=g) v2).setCell (p:=⟨g,0,none⟩) (.inl rfl) (.int .i64 0)).setCell (p:=⟨g,1,none⟩) (.inl rfl) (.int .i64 (k' :Int))).setCell (p:=⟨g,2,none⟩) (.inl rfl) (.slice (some ⟨s'.st,0,none⟩) 1 s'.kt)).setCell (p:=⟨g,3,none⟩) (.inl rfl) (.slice (some ⟨s'.sc,0,none⟩) 2 s'.kc)).setCell (p:=⟨g,4,none⟩) (.inl rfl) (.int .i64 1)).setCell (p:=⟨g,5,none⟩) (.inl rfl) (.int .i64 0)).setCell (p:=⟨g,6,none⟩) (.inl rfl) (.int .i64 0)).setCell (p:=⟨g,7,none⟩) (.inl rfl) (.int .i64 0));have hb:=((((((((bk.aC 0 (.int .i64 0)).aC 1 (.int .i64 (k' :Int))).aC 2 (.slice (some ⟨s'.st,0,none⟩) 1 s'.kt)).aC 3 (.slice (some ⟨s'.sc,0,none⟩) 2 s'.kc)).aC 4 (.int .i64 1)).aC 5 (.int .i64 0)).aC 6 (.int .i64 0)).aC 7 (.int .i64 0));exact ⟨Blk.cv hb (by simp),(hs.mono (G:=fun b=>B≤b∧b≠g) fun b hb=>⟨by omega,by omega⟩).frF hf fun b hb e=>hb.2 e,hf⟩
theorem aaf {v2:World}{B k' :Nat}{s' :Sx}(hs:eD v2 (fun b=>B≤b) s' k'):
  Blk (v2.alloc (.cells (s'.arr k') TSg)) v2.heap.size TSg (s'.arr k')∧eD (v2.alloc (.cells (s'.arr k') TSg)) (fun b=>B≤b∧b≠v2.heap.size) s' k'∧Fr No v2 (v2.alloc (.cells (s'.arr k') TSg)):=
 ⟨Blk.new _ _ _,(hs.old.au (aj _ _)).mono fun b hb=>⟨hb.1,by omega⟩,aj _ _⟩
theorem oW {V:World}{g:Nat}{t:TypeId}{cs:Array Value}(h:Blk V g t cs):∀k,V.frozen? ⟨g,k,none⟩=false:=fun k=>h.frozen k
set_option maxHeartbeats 16000000 in
theorem rV (h:jC w p z lab pv qs0 n c s 0)(hn:n≤2000000):Calls Tryz.prog 69 #[.pointer (some ⟨p,0,none⟩),.agg #[.int .i64 1,.int .i64 0,.int .i64 0,.int .i64 0,.int .i64 1,.int .i64 0,.int .i64 0,.int .i64 0,.int .i64 0]] w fun e w' =>e= .returned (.tuple #[.int .i64 0,.int .i64 0])∧agn w p z lab pv qs2 (n+1400000) c 1 w' :=by
 have hlt:=h.q.lt;obtain ⟨g,hg_⟩:∃g,g=w.heap.size:=⟨_,rfl⟩;obtain ⟨w1,hw1⟩:∃W,W=w.alloc (.cells #[.int .i64 1,.int .i64 0,.int .i64 0,.int .i64 0,.int .i64 1,.int .i64 0,.int .i64 0,.int .i64 0,.int .i64 0] iT):=⟨_,rfl⟩;have f0:Fr No w w1:=by rw [hw1];exact aj _ _
 have gb:Blk w1 g iT #[.int .i64 1,.int .i64 0,.int .i64 0,.int .i64 0,.int .i64 1,.int .i64 0,.int .i64 0,.int .i64 0,.int .i64 0]:=by rw [hw1,hg_];exact Blk.new _ _ _
 have hpw:=h.blk.lt;have hgp:p<g:=by omega
 obtain ⟨A,GB,F0,HW,HG,HLT⟩:=oK (h.au f0) gb f0 hw1 hg_ hlt;clear h hlt gb f0 hw1 hg_
 go_in
 go_upto_region 1 with fail
 rw [←HW.out,←HG.out];clear HW HG
 go_wp2_with fail
 refine (rP A.out).mono ?_;rintro e v1 ⟨rfl,f1⟩;obtain ⟨A1,GB1⟩:=aN (A.out.au f1) (GB.out.fr f1 id);have hcl:∀V,Fr No v1 V→V.cell? ⟨p,0,none⟩=some (.int .i64 2)∧V.cell? ⟨p,1,none⟩=some (.slice (some ⟨c.bz,0,none⟩) 2 c.cz)∧V.cell? ⟨p,2,none⟩=some (.slice (some ⟨c.bc,0,none⟩) 2 c.cc)∧V.cell? ⟨p,3,none⟩=some (.slice (some ⟨c.bt,0,none⟩) 1 c.ct)∧V.cell? ⟨p,4,none⟩=some (.slice (some ⟨c.bv,0,none⟩) 1 c.cv)∧V.cell? ⟨p,5,none⟩=some (.slice (some ⟨c.br,0,none⟩) 1 c.cr)∧V.cell? ⟨p,6,none⟩=some (.slice (some ⟨c.bo,0,none⟩) 1 c.co)∧V.cell? ⟨p,7,none⟩=some (.int .i64 1)∧V.cell? ⟨p,8,none⟩=some (.int .i64 20)∧V.cell? ⟨p,9,none⟩=some (.int .i64 0)∧V.cell? ⟨p,12,none⟩=some (.int .i64 0)∧V.cell? ⟨p,13,none⟩=some (.int .i64 0)∧V.cell? ⟨p,14,none⟩=some (.slice (some ⟨s.st,0,none⟩) 1 s.kt)∧V.cell? ⟨p,15,none⟩=some (.slice (some ⟨s.sc,0,none⟩) 2 s.kc)∧V.cell? ⟨p,16,none⟩=some (.int .i64 1)∧V.cell? ⟨p,17,none⟩=some (.int .i64 0)∧V.cell? ⟨p,18,none⟩=some (.int .i64 0)∧V.cell? ⟨p,19,none⟩=some (.int .i64 0)∧V.cell? ⟨g,0,none⟩=some (.int .i64 1)∧V.cell? ⟨g,1,none⟩=some (.int .i64 0)∧V.cell? ⟨g,2,none⟩=some (.int .i64 0)∧V.cell? ⟨g,3,none⟩=some (.int .i64 0)∧V.cell? ⟨g,4,none⟩=some (.int .i64 1)∧V.cell? ⟨g,5,none⟩=some (.int .i64 0)∧V.cell? ⟨g,6,none⟩=some (.int .i64 0)∧V.cell? ⟨g,7,none⟩=some (.int .i64 0)∧V.cell? ⟨g,8,none⟩=some (.int .i64 0):=fun V hV=>by
  obtain ⟨c0,c1,c2,c3,c4,c5,c6,c7,c8,c9,c10,c11,d0,d1,d2,d3,d4,d5,d6,d7⟩:=fI (A1.out.au hV).blk;obtain ⟨x0,x1,x2,x3,x4,x5,x6,x7,x8⟩:=zo (GB1.out.fr hV id);exact ⟨c0,c1,c2,c3,c4,c5,c6,c7,c8,c9,d0,d1,d2,d3,d4,d5,d6,d7,x0,x1,x2,x3,x4,x5,x6,x7,x8⟩
 have hap:=fun V (hV:Fr No v1 V)=>(pz (A1.out.au hV).c (A1.out.au hV).s).mono fun e w' ⟨s',h1,h2,h3⟩=>(⟨s',h1,h2,h3⟩:∃s' :Sx,e=Ending.returned (.tuple #[.agg (s'.arr 1),.int .i64 0])∧eD w' (fun b=>V.heap.size≤b) s' 1∧Fr No V w');obtain ⟨c0,c1,c2,c3,c4,c5,c6,c7,c8,c9,d0,d1,d2,d3,d4,d5,d6,d7,x0,x1,x2,x3,x4,x5,x6,x7,x8⟩:=hcl _ (Fr.refl _ _);obtain ⟨HCL,HAP⟩:=aN hcl hap;clear hcl hap
 go_upto_region 3 with fail
 go_cut [6,7] from 13 to 24 (fun x y wx=>∃ga s',x= .pointer (some ⟨ga,0,none⟩)∧y= .int .i64 0∧v1.heap.size≤ga∧Blk wx ga TSg (Sx.arr s' 1)∧eD wx (fun b=>v1.heap.size≤b∧b≠ga) s' 1∧Fr No v1 wx)
 case first=>
  have hs9:v1.heap.size≤v1.heap.size:=Nat.le_refl _
  go_region_held3 (fun V=>V.cell? ⟨p,0,none⟩=some (.int .i64 2)∧V.cell? ⟨p,1,none⟩=some (.slice (some ⟨c.bz,0,none⟩) 2 c.cz)∧V.cell? ⟨p,2,none⟩=some (.slice (some ⟨c.bc,0,none⟩) 2 c.cc)∧V.cell? ⟨p,3,none⟩=some (.slice (some ⟨c.bt,0,none⟩) 1 c.ct)∧V.cell? ⟨p,4,none⟩=some (.slice (some ⟨c.bv,0,none⟩) 1 c.cv)∧V.cell? ⟨p,5,none⟩=some (.slice (some ⟨c.br,0,none⟩) 1 c.cr)∧V.cell? ⟨p,6,none⟩=some (.slice (some ⟨c.bo,0,none⟩) 1 c.co)∧V.cell? ⟨p,7,none⟩=some (.int .i64 1)∧V.cell? ⟨p,8,none⟩=some (.int .i64 20)∧V.cell? ⟨p,9,none⟩=some (.int .i64 0)∧V.cell? ⟨p,12,none⟩=some (.int .i64 0)∧V.cell? ⟨p,13,none⟩=some (.int .i64 0)∧V.cell? ⟨p,14,none⟩=some (.slice (some ⟨s.st,0,none⟩) 1 s.kt)∧V.cell? ⟨p,15,none⟩=some (.slice (some ⟨s.sc,0,none⟩) 2 s.kc)∧V.cell? ⟨p,16,none⟩=some (.int .i64 1)∧V.cell? ⟨p,17,none⟩=some (.int .i64 0)∧V.cell? ⟨p,18,none⟩=some (.int .i64 0)∧V.cell? ⟨p,19,none⟩=some (.int .i64 0)∧V.cell? ⟨g,0,none⟩=some (.int .i64 1)∧V.cell? ⟨g,1,none⟩=some (.int .i64 0)∧V.cell? ⟨g,2,none⟩=some (.int .i64 0)∧V.cell? ⟨g,3,none⟩=some (.int .i64 0)∧V.cell? ⟨g,4,none⟩=some (.int .i64 1)∧V.cell? ⟨g,5,none⟩=some (.int .i64 0)∧V.cell? ⟨g,6,none⟩=some (.int .i64 0)∧V.cell? ⟨g,7,none⟩=some (.int .i64 0)∧V.cell? ⟨g,8,none⟩=some (.int .i64 0)) ((refine HCL.out _ ?_;exact (by repeat (with_reducible first|assumption|exact Fr.refl _ _|refine Fr.alloc ?_ _|refine Fr.drew ?_|refine Fr.drewN ?_ _|refine Fr.setCell ?_ (.inr (by assumption)) _)))) (first
   |(go_at_call 103;refine (HAP.out _ (by with_reducible ((repeat (first|assumption|exact Fr.refl _ _|refine Fr.alloc ?_ _|refine Fr.drew ?_|refine Fr.drewN ?_ _));done))).mono ?_;rintro e v2 ⟨⟨t1,t2,t3,t4⟩,rfl,hs,r2⟩;have f2:Fr No v1 v2:=Fr.ah (by with_reducible ((repeat (first|assumption|exact Fr.refl _ _|refine Fr.alloc ?_ _|refine Fr.drew ?_|refine Fr.drewN ?_ _));done)) r2;have HS:=O hs;clear hs;first|(have bk:Blk v2 v1.heap.size TSg #[.int .i64 0,.int .i64 0,.slice none 0 0,.slice none 0 0,.int .i64 0,.int .i64 0,.int .i64 0,.int .i64 0]:=Blk.fr (F:=No) (Blk.new v1.drew TSg #[.int .i64 0,.int .i64 0,.slice none 0 0,.slice none 0 0,.int .i64 0,.int .i64 0,.int .i64 0,.int .i64 0]) r2 id;have u0:=bk.cell 0;have y0:=bk.frozen 0;have u1:=bk.cell 1;have y1:=bk.frozen 1;have u2:=bk.cell 2;have y2:=bk.frozen 2;have u3:=bk.cell 3;have y3:=bk.frozen 3;have u4:=bk.cell 4;have y4:=bk.frozen 4;have u5:=bk.cell 5;have y5:=bk.frozen 5;have u6:=bk.cell 6;have y6:=bk.frozen 6;have u7:=bk.cell 7;have y7:=bk.frozen 7;simp only [List.getElem?_toArray,List.getElem?_cons_zero,List.getElem?_cons_succ] at u0 u1 u2 u3 u4 u5 u6 u7)|skip))
  all_goals first
   |(have hq:=vV (B:=v1.heap.size) bk (Nat.le_refl _) (HS.out.mono fun b hb=>by simp at hb;omega);clear u0 y0 u1 y1 u2 y2 u3 y3 u4 y4 u5 y5 u6 y6 u7 y7 bk;generalize World.setCell (World.setCell (World.setCell (World.setCell (World.setCell (World.setCell (World.setCell (World.setCell v2 _ _) _ _) _ _) _ _) _ _) _ _) _ _) _ _=W5 at hq ⊢;have f5:Fr No v1 W5:=f2.aD hq.2.2 (fun b hb=>by have hb:b=v1.heap.size:=hb;omega))
   |(have hq:=aaf (B:=v1.heap.size) (HS.out.mono fun b hb=>by simpa using hb);generalize World.alloc v2 _=W5 at hq ⊢;have f5:Fr No v1 W5:=f2.ah hq.2.2;have hsz:=f2.size)
  all_goals go_wp2_with fail
  all_goals go_meet
  all_goals first
   |exact ⟨v1.heap.size,⟨t1,t2,t3,t4⟩,rfl,rfl,Nat.le_refl _,hq.1,hq.2.1,f5⟩
   |exact ⟨v2.heap.size,⟨t1,t2,t3,t4⟩,rfl,rfl,hsz,hq.1,hq.2.1,f5⟩
 clear c0 c1 c2 c3 c4 c5 c6 c7 c8 c9 d0 d1 d2 d3 d4 d5 d6 d7 x0 x1 x2 x3 x4 x5 x6 x7 x8;obtain ⟨ga,⟨t1,t2,t3,t4⟩,rfl,rfl,hga,hba,hsa,f2⟩:=hcut;have A2:=O (A1.out.au f2);have hlab:∀b,v1.heap.size≤b→lab b=none:=fun b hb=>by
  cases hj:lab b with
  |none=>rfl
  |some j=>have:=A1.out.q.lt b j hj;omega
 have hbl:=hba.lt;have hpv:p<v1.heap.size:=A1.out.blk.lt;obtain ⟨BA,SA,HL⟩:=bC hba hsa hlab;obtain ⟨x0,x1,x2,x3,x4,x5,x6,x7,x8⟩:=zo (GB1.out.fr f2 id);clear hba hsa hlab
 go_wp2_with fail
 refine (vG A2.out hn).mono ?_;rintro e v3 ⟨rfl,dW,s2_⟩;obtain ⟨A3,e3,f3⟩:=s2_;clear x0 x1 x2 x3 x4 x5 x6 x7 x8;have hb3:=BA.out.fr f3 (fun hn=>hn (HL.out ga hga));have hs3:eD v3 (fun b=>dW b=none∧b≠p) ⟨t1,t2,t3,t4⟩ 1:=by
  have hs1:=SA.out.frF f3 (fun b hb hn=>hn (HL.out b hb.1));have hlts:=SA.out.lts;refine ⟨⟨hs1.t.1,fun b hb=> ?_⟩,⟨hs1.c.1,fun b hb=> ?_⟩⟩
  ·have h1:=hs1.t.2 b hb
   have h2:=SA.out.t.lt b hb;exact ⟨(e3 b h2).trans (HL.out b h1.1),by omega⟩
  ·have h1:=hs1.c.2 b hb
   have h2:=SA.out.c.lt b hb;exact ⟨(e3 b h2).trans (HL.out b h1.1),by omega⟩
 obtain ⟨c0,c1,c2,c3,c4,c5,c6,c7,c8,c9,c10,c11,d0,d1,d2,d3,d4,d5,d6,d7⟩:=fI A3.blk;obtain ⟨y0,y1,y2,y3,y4,y5,y6,y7⟩:=jf hb3;have hfz:=oW A3.blk;have z12:=hfz 12;have z13:=hfz 13;have z14:=hfz 14;have z15:=hfz 15;have z16:=hfz 16;have z17:=hfz 17;have z18:=hfz 18;have z19:=hfz 19;have hto:=ag5 A3 hs3;obtain ⟨HTO,E3,F3⟩:=bC hto e3 f3;clear hfz hto A3 hs3 hb3 e3 f3
 go_wp2_with fail
 have hsz1:=F0.out.size;have hsz2:=f1.size;have aqg:=f2.size;refine bodyPost_ret (results_tmp2 rfl _ _ _) rfl ⟨rfl,dW,⟨t1,t2,t3,t4⟩,HTO.out.1,fun b hb=>E3.out b oy,?_⟩;have g1:Fr (fun b=>lab b≠none∨b=p) w wc:=((F0.out.ah f1).ah f2).mono fun _ h=>h.elim;exact (g1.trans F3.out fun b hb=> .inl (.inl hb)).trans HTO.out.2 fun b hb=> .inl (.inr hb)
set_option maxHeartbeats 16000000 in
theorem rU (h:jC w p z lab pv qs2 n c s 1)(hn:n≤2000000):Calls Tryz.prog 69 #[.pointer (some ⟨p,0,none⟩),.agg #[.int .i64 2,.int .i64 0,.int .i64 0,.int .i64 0,.int .i64 (-1),.int .i64 1,.int .i64 0,.int .i64 20,.int .i64 0]] w fun e w' =>e= .returned (.tuple #[.int .i64 1,.int .i64 0])∧agn w p z lab pv qs3 (n+700000) c 2 w' :=by
 have hlt:=h.q.lt;obtain ⟨g,hg_⟩:∃g,g=w.heap.size:=⟨_,rfl⟩;obtain ⟨w1,hw1⟩:∃W,W=w.alloc (.cells #[.int .i64 2,.int .i64 0,.int .i64 0,.int .i64 0,.int .i64 (-1),.int .i64 1,.int .i64 0,.int .i64 20,.int .i64 0] iT):=⟨_,rfl⟩;have f0:Fr No w w1:=by rw [hw1];exact aj _ _
 have gb:Blk w1 g iT #[.int .i64 2,.int .i64 0,.int .i64 0,.int .i64 0,.int .i64 (-1),.int .i64 1,.int .i64 0,.int .i64 20,.int .i64 0]:=by rw [hw1,hg_];exact Blk.new _ _ _
 have hpw:=h.blk.lt;have hgp:p<g:=by omega
 obtain ⟨A,GB,F0,HW,HG,HLT⟩:=oK (h.au f0) gb f0 hw1 hg_ hlt;clear h hlt gb f0 hw1 hg_
 go_in
 go_upto_region 1 with fail
 rw [←HW.out,←HG.out];clear HW HG
 go_wp2_with fail
 refine (rP A.out).mono ?_;rintro e v1 ⟨rfl,f1⟩;obtain ⟨A1,GB1⟩:=aN (A.out.au f1) (GB.out.fr f1 id);have hcl:∀V,Fr No v1 V→V.cell? ⟨p,0,none⟩=some (.int .i64 2)∧V.cell? ⟨p,1,none⟩=some (.slice (some ⟨c.bz,0,none⟩) 2 c.cz)∧V.cell? ⟨p,2,none⟩=some (.slice (some ⟨c.bc,0,none⟩) 2 c.cc)∧V.cell? ⟨p,3,none⟩=some (.slice (some ⟨c.bt,0,none⟩) 1 c.ct)∧V.cell? ⟨p,4,none⟩=some (.slice (some ⟨c.bv,0,none⟩) 1 c.cv)∧V.cell? ⟨p,5,none⟩=some (.slice (some ⟨c.br,0,none⟩) 1 c.cr)∧V.cell? ⟨p,6,none⟩=some (.slice (some ⟨c.bo,0,none⟩) 1 c.co)∧V.cell? ⟨p,7,none⟩=some (.int .i64 1)∧V.cell? ⟨p,8,none⟩=some (.int .i64 20)∧V.cell? ⟨p,9,none⟩=some (.int .i64 0)∧V.cell? ⟨p,12,none⟩=some (.int .i64 0)∧V.cell? ⟨p,13,none⟩=some (.int .i64 1)∧V.cell? ⟨p,14,none⟩=some (.slice (some ⟨s.st,0,none⟩) 1 s.kt)∧V.cell? ⟨p,15,none⟩=some (.slice (some ⟨s.sc,0,none⟩) 2 s.kc)∧V.cell? ⟨p,16,none⟩=some (.int .i64 1)∧V.cell? ⟨p,17,none⟩=some (.int .i64 0)∧V.cell? ⟨p,18,none⟩=some (.int .i64 0)∧V.cell? ⟨p,19,none⟩=some (.int .i64 0)∧V.cell? ⟨g,0,none⟩=some (.int .i64 2)∧V.cell? ⟨g,1,none⟩=some (.int .i64 0)∧V.cell? ⟨g,2,none⟩=some (.int .i64 0)∧V.cell? ⟨g,3,none⟩=some (.int .i64 0)∧V.cell? ⟨g,4,none⟩=some (.int .i64 (-1))∧V.cell? ⟨g,5,none⟩=some (.int .i64 1)∧V.cell? ⟨g,6,none⟩=some (.int .i64 0)∧V.cell? ⟨g,7,none⟩=some (.int .i64 20)∧V.cell? ⟨g,8,none⟩=some (.int .i64 0):=fun V hV=>by
  obtain ⟨c0,c1,c2,c3,c4,c5,c6,c7,c8,c9,c10,c11,d0,d1,d2,d3,d4,d5,d6,d7⟩:=fI (A1.out.au hV).blk;obtain ⟨x0,x1,x2,x3,x4,x5,x6,x7,x8⟩:=zo (GB1.out.fr hV id);exact ⟨c0,c1,c2,c3,c4,c5,c6,c7,c8,c9,d0,d1,d2,d3,d4,d5,d6,d7,x0,x1,x2,x3,x4,x5,x6,x7,x8⟩
 have hap:=fun V (hV:Fr No v1 V)=>(oZ (A1.out.au hV).c (A1.out.au hV).s).mono fun e w' ⟨s',h1,h2,h3⟩=>(⟨s',h1,h2,h3⟩:∃s' :Sx,e=Ending.returned (.tuple #[.agg (s'.arr 2),.int .i64 0])∧eD w' (fun b=>V.heap.size≤b) s' 2∧Fr No V w');obtain ⟨c0,c1,c2,c3,c4,c5,c6,c7,c8,c9,d0,d1,d2,d3,d4,d5,d6,d7,x0,x1,x2,x3,x4,x5,x6,x7,x8⟩:=hcl _ (Fr.refl _ _);obtain ⟨HCL,HAP⟩:=aN hcl hap;clear hcl hap
 go_upto_region 3 with fail
 go_cut [6,7] from 13 to 24 (fun x y wx=>∃ga s',x= .pointer (some ⟨ga,0,none⟩)∧y= .int .i64 0∧v1.heap.size≤ga∧Blk wx ga TSg (Sx.arr s' 2)∧eD wx (fun b=>v1.heap.size≤b∧b≠ga) s' 2∧Fr No v1 wx)
 case first=>
  have hs9:v1.heap.size≤v1.heap.size:=Nat.le_refl _
  go_region_held3 (fun V=>V.cell? ⟨p,0,none⟩=some (.int .i64 2)∧V.cell? ⟨p,1,none⟩=some (.slice (some ⟨c.bz,0,none⟩) 2 c.cz)∧V.cell? ⟨p,2,none⟩=some (.slice (some ⟨c.bc,0,none⟩) 2 c.cc)∧V.cell? ⟨p,3,none⟩=some (.slice (some ⟨c.bt,0,none⟩) 1 c.ct)∧V.cell? ⟨p,4,none⟩=some (.slice (some ⟨c.bv,0,none⟩) 1 c.cv)∧V.cell? ⟨p,5,none⟩=some (.slice (some ⟨c.br,0,none⟩) 1 c.cr)∧V.cell? ⟨p,6,none⟩=some (.slice (some ⟨c.bo,0,none⟩) 1 c.co)∧V.cell? ⟨p,7,none⟩=some (.int .i64 1)∧V.cell? ⟨p,8,none⟩=some (.int .i64 20)∧V.cell? ⟨p,9,none⟩=some (.int .i64 0)∧V.cell? ⟨p,12,none⟩=some (.int .i64 0)∧V.cell? ⟨p,13,none⟩=some (.int .i64 1)∧V.cell? ⟨p,14,none⟩=some (.slice (some ⟨s.st,0,none⟩) 1 s.kt)∧V.cell? ⟨p,15,none⟩=some (.slice (some ⟨s.sc,0,none⟩) 2 s.kc)∧V.cell? ⟨p,16,none⟩=some (.int .i64 1)∧V.cell? ⟨p,17,none⟩=some (.int .i64 0)∧V.cell? ⟨p,18,none⟩=some (.int .i64 0)∧V.cell? ⟨p,19,none⟩=some (.int .i64 0)∧V.cell? ⟨g,0,none⟩=some (.int .i64 2)∧V.cell? ⟨g,1,none⟩=some (.int .i64 0)∧V.cell? ⟨g,2,none⟩=some (.int .i64 0)∧V.cell? ⟨g,3,none⟩=some (.int .i64 0)∧V.cell? ⟨g,4,none⟩=some (.int .i64 (-1))∧V.cell? ⟨g,5,none⟩=some (.int .i64 1)∧V.cell? ⟨g,6,none⟩=some (.int .i64 0)∧V.cell? ⟨g,7,none⟩=some (.int .i64 20)∧V.cell? ⟨g,8,none⟩=some (.int .i64 0)) ((refine HCL.out _ ?_;exact (by repeat (with_reducible first|assumption|exact Fr.refl _ _|refine Fr.alloc ?_ _|refine Fr.drew ?_|refine Fr.drewN ?_ _|refine Fr.setCell ?_ (.inr (by assumption)) _)))) (first
   |(go_at_call 103;refine (HAP.out _ (by with_reducible ((repeat (first|assumption|exact Fr.refl _ _|refine Fr.alloc ?_ _|refine Fr.drew ?_|refine Fr.drewN ?_ _));done))).mono ?_;rintro e v2 ⟨⟨t1,t2,t3,t4⟩,rfl,hs,r2⟩;have f2:Fr No v1 v2:=Fr.ah (by with_reducible ((repeat (first|assumption|exact Fr.refl _ _|refine Fr.alloc ?_ _|refine Fr.drew ?_|refine Fr.drewN ?_ _));done)) r2;have HS:=O hs;clear hs;first|(have bk:Blk v2 v1.heap.size TSg #[.int .i64 0,.int .i64 0,.slice none 0 0,.slice none 0 0,.int .i64 0,.int .i64 0,.int .i64 0,.int .i64 0]:=Blk.fr (F:=No) (Blk.new v1.drew TSg #[.int .i64 0,.int .i64 0,.slice none 0 0,.slice none 0 0,.int .i64 0,.int .i64 0,.int .i64 0,.int .i64 0]) r2 id;have u0:=bk.cell 0;have y0:=bk.frozen 0;have u1:=bk.cell 1;have y1:=bk.frozen 1;have u2:=bk.cell 2;have y2:=bk.frozen 2;have u3:=bk.cell 3;have y3:=bk.frozen 3;have u4:=bk.cell 4;have y4:=bk.frozen 4;have u5:=bk.cell 5;have y5:=bk.frozen 5;have u6:=bk.cell 6;have y6:=bk.frozen 6;have u7:=bk.cell 7;have y7:=bk.frozen 7;simp only [List.getElem?_toArray,List.getElem?_cons_zero,List.getElem?_cons_succ] at u0 u1 u2 u3 u4 u5 u6 u7)|skip))
  all_goals first
   |(have hq:=vV (B:=v1.heap.size) bk (Nat.le_refl _) (HS.out.mono fun b hb=>by simp at hb;omega);clear u0 y0 u1 y1 u2 y2 u3 y3 u4 y4 u5 y5 u6 y6 u7 y7 bk;generalize World.setCell (World.setCell (World.setCell (World.setCell (World.setCell (World.setCell (World.setCell (World.setCell v2 _ _) _ _) _ _) _ _) _ _) _ _) _ _) _ _=W5 at hq ⊢;have f5:Fr No v1 W5:=f2.aD hq.2.2 (fun b hb=>by have hb:b=v1.heap.size:=hb;omega))
   |(have hq:=aaf (B:=v1.heap.size) (HS.out.mono fun b hb=>by simpa using hb);generalize World.alloc v2 _=W5 at hq ⊢;have f5:Fr No v1 W5:=f2.ah hq.2.2;have hsz:=f2.size)
  all_goals go_wp2_with fail
  all_goals go_meet
  all_goals first
   |exact ⟨v1.heap.size,⟨t1,t2,t3,t4⟩,rfl,rfl,Nat.le_refl _,hq.1,hq.2.1,f5⟩
   |exact ⟨v2.heap.size,⟨t1,t2,t3,t4⟩,rfl,rfl,hsz,hq.1,hq.2.1,f5⟩
 clear c0 c1 c2 c3 c4 c5 c6 c7 c8 c9 d0 d1 d2 d3 d4 d5 d6 d7 x0 x1 x2 x3 x4 x5 x6 x7 x8;obtain ⟨ga,⟨t1,t2,t3,t4⟩,rfl,rfl,hga,hba,hsa,f2⟩:=hcut;have A2:=O (A1.out.au f2);have hlab:∀b,v1.heap.size≤b→lab b=none:=fun b hb=>by
  cases hj:lab b with
  |none=>rfl
  |some j=>have:=A1.out.q.lt b j hj;omega
 have hbl:=hba.lt;have hpv:p<v1.heap.size:=A1.out.blk.lt;obtain ⟨BA,SA,HL⟩:=bC hba hsa hlab;obtain ⟨x0,x1,x2,x3,x4,x5,x6,x7,x8⟩:=zo (GB1.out.fr f2 id);clear hba hsa hlab
 go_wp2_with fail
 refine (vF A2.out hn).mono ?_;rintro e v3 ⟨rfl,dW,s2_⟩;obtain ⟨A3,e3,f3⟩:=s2_;clear x0 x1 x2 x3 x4 x5 x6 x7 x8;have hb3:=BA.out.fr f3 (fun hn=>hn (HL.out ga hga));have hs3:eD v3 (fun b=>dW b=none∧b≠p) ⟨t1,t2,t3,t4⟩ 2:=by
  have hs1:=SA.out.frF f3 (fun b hb hn=>hn (HL.out b hb.1));have hlts:=SA.out.lts;refine ⟨⟨hs1.t.1,fun b hb=> ?_⟩,⟨hs1.c.1,fun b hb=> ?_⟩⟩
  ·have h1:=hs1.t.2 b hb
   have h2:=SA.out.t.lt b hb;exact ⟨(e3 b h2).trans (HL.out b h1.1),by omega⟩
  ·have h1:=hs1.c.2 b hb
   have h2:=SA.out.c.lt b hb;exact ⟨(e3 b h2).trans (HL.out b h1.1),by omega⟩
 obtain ⟨c0,c1,c2,c3,c4,c5,c6,c7,c8,c9,c10,c11,d0,d1,d2,d3,d4,d5,d6,d7⟩:=fI A3.blk;obtain ⟨y0,y1,y2,y3,y4,y5,y6,y7⟩:=jf hb3;have hfz:=oW A3.blk;have z12:=hfz 12;have z13:=hfz 13;have z14:=hfz 14;have z15:=hfz 15;have z16:=hfz 16;have z17:=hfz 17;have z18:=hfz 18;have z19:=hfz 19;have hto:=ag5 A3 hs3;obtain ⟨HTO,E3,F3⟩:=bC hto e3 f3;clear hfz hto A3 hs3 hb3 e3 f3
 go_wp2_with fail
 have hsz1:=F0.out.size;have hsz2:=f1.size;have aqg:=f2.size;refine bodyPost_ret (results_tmp2 rfl _ _ _) rfl ⟨rfl,dW,⟨t1,t2,t3,t4⟩,HTO.out.1,fun b hb=>E3.out b oy,?_⟩;have g1:Fr (fun b=>lab b≠none∨b=p) w wc:=((F0.out.ah f1).ah f2).mono fun _ h=>h.elim;exact (g1.trans F3.out fun b hb=> .inl (.inl hb)).trans HTO.out.2 fun b hb=> .inl (.inr hb)
end
end Go.Proofs.YtodkhcbjpodgeaaGreat
