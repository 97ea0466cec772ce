/-
  The contracts of the program's shapes: span.has, fits, Shape.
-/
import Derived.Test.YtodkhcbjpodgeaaGreatG17
namespace Go.Proofs.YtodkhcbjpodgeaaGreat
open Go.ChangeShapes Go.WideShapes Go.ChangeAt Go.RowKit
set_option linter.unusedVariables false
set_option maxRecDepth 100000
set_option maxHeartbeats 4000000
theorem jw (a b n:Int)(w:World):
  Calls Tryz.prog 275 #[.agg #[.int .i64 a,.int .i64 b],.int .i64 n] w fun e w' =>e= .returned (.bool (inB a b n))∧Fr No w w' :=by
 by_cases h1:a≤n
 ·by_cases h2:n≤b
  ·go_in
   go_wp2_with fail
   go_ret
   exact ⟨aS (by simp [inB,h1,h2]),(Fr.refl _ _).alloc _⟩
  ·go_in
   go_wp2_with fail
   go_ret
   exact ⟨aS (by simp [inB,h1,h2]),(Fr.refl _ _).alloc _⟩
 ·go_in
  go_wp2_with fail
  go_ret
  exact ⟨aS (by unfold inB;rw [dff];rfl),(Fr.refl _ _).alloc _⟩
theorem nine:∀x0 x1 x2 x3 x4 x5 x6 x7 x8:Bool,(x0=false)∨(x0=true∧x1=false)∨(x0=true∧x1=true∧x2=false)∨(x0=true∧x1=true∧x2=true∧x3=false)∨(x0=true∧x1=true∧x2=true∧x3=true∧x4=false)∨(x0=true∧x1=true∧x2=true∧x3=true∧x4=true∧x5=false)∨(x0=true∧x1=true∧x2=true∧x3=true∧x4=true∧x5=true∧x6=false)∨(x0=true∧x1=true∧x2=true∧x3=true∧x4=true∧x5=true∧x6=true∧x7=false)∨(x0=true∧x1=true∧x2=true∧x3=true∧x4=true∧x5=true∧x6=true∧x7=true∧x8=false)∨(x0=true∧x1=true∧x2=true∧x3=true∧x4=true∧x5=true∧x6=true∧x7=true∧x8=true):=by
 intro x0 x1 x2 x3 x4 x5 x6 x7 x8
 cases x0 with
 |false=>exact .inl rfl
 |true=>
  cases x1 with
  |false=>exact .inr (.inl ⟨rfl,rfl⟩)
  |true=>
   cases x2 with
   |false=>exact .inr (.inr (.inl ⟨rfl,rfl,rfl⟩))
   |true=>
    cases x3 with
    |false=>exact .inr (.inr (.inr (.inl ⟨rfl,rfl,rfl,rfl⟩)))
    |true=>
     cases x4 with
     |false=>exact .inr (.inr (.inr (.inr (.inl ⟨rfl,rfl,rfl,rfl,rfl⟩))))
     |true=>
      cases x5 with
      |false=>exact .inr (.inr (.inr (.inr (.inr (.inl ⟨rfl,rfl,rfl,rfl,rfl,rfl⟩)))))
      |true=>
       cases x6 with
       |false=>exact .inr (.inr (.inr (.inr (.inr (.inr (.inl ⟨rfl,rfl,rfl,rfl,rfl,rfl,rfl⟩))))))
       |true=>
        cases x7 with
        |false=>exact .inr (.inr (.inr (.inr (.inr (.inr (.inr (.inl ⟨rfl,rfl,rfl,rfl,rfl,rfl,rfl,rfl⟩)))))))
        |true=>
         cases x8 with
         |false=>exact .inr (.inr (.inr (.inr (.inr (.inr (.inr (.inr (.inl ⟨rfl,rfl,rfl,rfl,rfl,rfl,rfl,rfl,rfl⟩))))))))
         |true=>
          exact .inr (.inr (.inr (.inr (.inr (.inr (.inr (.inr (.inr (⟨rfl,rfl,rfl,rfl,rfl,rfl,rfl,rfl,rfl⟩)))))))))
theorem dx {w:World}{g:Nat}{f:Fm}(h:Blk w g iq f.vals):w.cell? ⟨g,0,none⟩=some (.int .i64 f.bF.lo)∧w.cell? ⟨g,1,none⟩=some (.int .i64 f.bF.hi)∧w.cell? ⟨g,2,none⟩=some (.int .i64 f.cell.lo)∧w.cell? ⟨g,3,none⟩=some (.int .i64 f.cell.hi)∧w.cell? ⟨g,4,none⟩=some (.int .i64 f.other.lo)∧w.cell? ⟨g,5,none⟩=some (.int .i64 f.other.hi)∧w.cell? ⟨g,6,none⟩=some (.int .i64 f.epoch.lo)∧w.cell? ⟨g,7,none⟩=some (.int .i64 f.epoch.hi)∧w.cell? ⟨g,8,none⟩=some (.int .i64 f.ticks.lo)∧w.cell? ⟨g,9,none⟩=some (.int .i64 f.ticks.hi)∧w.cell? ⟨g,10,none⟩=some (.int .i64 f.n.lo)∧w.cell? ⟨g,11,none⟩=some (.int .i64 f.n.hi):=
 ⟨h.cell 0,h.cell 1,h.cell 2,h.cell 3,h.cell 4,h.cell 5,h.cell 6,h.cell 7,h.cell 8,h.cell 9,h.cell 10,h.cell 11⟩
theorem fK (x:Int):inB 0 1073741824 x=(decide (0≤x) && decide (x≤1073741824)):=rfl
set_option maxHeartbeats 8000000 in
theorem qy (e:En)(nt nc nr nv:Int)(w:World)(h1: -4611686018427387904≤nt)(h2:nt≤4611686018427387904)(h3: -4611686018427387904≤nc)(h4:nc≤4611686018427387904)(h5: -4611686018427387904≤nr)(h6:nr≤4611686018427387904)(h7: -4611686018427387904≤nv)(h8:nv≤4611686018427387904):
  Calls Tryz.prog 233 #[e.v,.agg #[.int .i64 nt,.int .i64 nc,.int .i64 nr,.int .i64 nv]] w fun r w' =>r= .returned (.bool (uX e nt nc nr nv))∧Fr No w w' :=by
 have hF:=fun W=>yY e.kind nt nc nr nv W h1 h2 h3 h4 h5 h6 h7 h8;unfold xK at hF;obtain ⟨R,hR⟩:∃R:Bool,uX e nt nc nr nv=R:=⟨_,rfl⟩;rw [hR];unfold uX at hR;revert hF hR;generalize kR e.kind nt nc nr nv=f;intro hF hR;clear h1 h2 h3 h4 h5 h6 h7 h8;obtain ⟨k,tick,te,ce,ot,ep,fr,un,n⟩:=e;unfold En.v at*;simp only [Sp.has] at*;obtain ⟨HF,HR⟩:=aN hF hR;clear hF hR
 go_in
 go_wp2_with fail
 refine (HF.out _).mono ?_;rintro e w1 ⟨rfl,f1⟩;obtain ⟨FF,BB⟩:=aN (((aj w (.cells #[.int .i64 k,.int .i64 tick,.int .i64 te,.int .i64 ce,.int .i64 ot,.int .i64 ep,.int .i64 fr,.int .i64 un,.int .i64 n] qE)).alloc (.cells #[.int .i64 nt,.int .i64 nc,.int .i64 nr,.int .i64 nv] an1)).ah f1) (((Blk.new w qE #[.int .i64 k,.int .i64 tick,.int .i64 te,.int .i64 ce,.int .i64 ot,.int .i64 ep,.int .i64 fr,.int .i64 un,.int .i64 n]).dJ (.cells #[.int .i64 nt,.int .i64 nc,.int .i64 nr,.int .i64 nv] an1)).fr f1 id);clear f1 HF;obtain ⟨c0,c1,c2,c3,c4,c5,c6,c7,c8⟩:=aU BB.out
 by_cases hk:inB 1 16 k=true
 ·rw [if_pos hk,hk]
  simp only [Fm.vals];replace BB:=O (BB.out.dJ (.cells f.vals iq));replace FF:=O (FF.out.alloc (.cells f.vals iq));have DD:=O (Blk.new w1 iq f.vals)
  go_upto_region 2 with fail
  rw [show w1.alloc (.cells #[.int .i64 f.bF.lo,.int .i64 f.bF.hi,.int .i64 f.cell.lo,.int .i64 f.cell.hi,.int .i64 f.other.lo,.int .i64 f.other.hi,.int .i64 f.epoch.lo,.int .i64 f.epoch.hi,.int .i64 f.ticks.lo,.int .i64 f.ticks.hi,.int .i64 f.n.lo,.int .i64 f.n.hi] iq)=w1.alloc (.cells f.vals iq) from rfl];obtain ⟨W,hW⟩:∃W,W=w1.alloc (.cells f.vals iq):=⟨_,rfl⟩;rw [←hW] at BB FF DD ⊢;obtain ⟨g,hg⟩:∃g,g=w1.heap.size:=⟨_,rfl⟩;rw [←hg] at DD ⊢;clear hW hg c0 c1 c2 c3 c4 c5 c6 c7 c8;obtain ⟨c0,c1,c2,c3,c4,c5,c6,c7,c8⟩:=aU BB.out;obtain ⟨b,hb⟩:∃b,b=((k == 1) && (ot == ce)):=⟨_,rfl⟩;obtain ⟨HB,HK⟩:=aN hb hk;clear hb hk
  go_cut [27] (fun x wx=>x= .bool b∧wx=W)
  case first=>
   cases hk1:(k == 1)
   ·go_wp2_with fail
    go_meet
    exact ⟨by rw [HB.out,hk1];rfl,rfl⟩
   ·go_wp2_with fail
    go_meet
    exact ⟨by rw [HB.out,hk1];rfl,rfl⟩
  case rest=>
   obtain ⟨rfl,rfl⟩:=hcut
   cases b
   ·obtain ⟨d0,d1,d2,d3,d4,d5,d6,d7,d8,d9,d10,d11⟩:=dx DD.out
    rcases nine (decide (0≤tick)) (decide (tick≤1073741824)) (inB f.bF.lo f.bF.hi te) (inB f.cell.lo f.cell.hi ce) (inB f.other.lo f.other.hi ot) (inB f.epoch.lo f.epoch.hi ep) (inB f.ticks.lo f.ticks.hi fr) (inB f.ticks.lo f.ticks.hi un) (inB f.n.lo f.n.hi n) with t0|⟨t0,t1⟩|⟨t0,t1,s1⟩|⟨t0,t1,s1,s2⟩|⟨t0,t1,s1,s2,s3⟩|⟨t0,t1,s1,s2,s3,s4⟩|⟨t0,t1,s1,s2,s3,s4,s5⟩|⟨t0,t1,s1,s2,s3,s4,s5,s6⟩|⟨t0,t1,s1,s2,s3,s4,s5,s6,s7⟩|⟨t0,t1,s1,s2,s3,s4,s5,s6,s7⟩
    ·go_wp2_with (first
   |(go_at_call 275;refine (jw _ _ _ _).mono ?_;rintro e w5 ⟨rfl,f5⟩;replace FF:=O (FF.out.ah f5);replace BB:=O (BB.out.fr f5 id);replace DD:=O (DD.out.fr f5 id);clear f5 c0 c1 c2 c3 c4 c5 c6 c7 c8 d0 d1 d2 d3 d4 d5 d6 d7 d8 d9 d10 d11;obtain ⟨c0,c1,c2,c3,c4,c5,c6,c7,c8⟩:=aU BB.out;obtain ⟨d0,d1,d2,d3,d4,d5,d6,d7,d8,d9,d10,d11⟩:=dx DD.out))
     go_ret
     refine ⟨aS ?_,FF.out⟩;have hb3:(decide (k=1) && decide (ot=ce))=false:=HB.out.symm;rw [←HR.out,HK.out,hb3,fK,t0]
     rfl
    ·go_wp2_with (first
   |(go_at_call 275;refine (jw _ _ _ _).mono ?_;rintro e w5 ⟨rfl,f5⟩;replace FF:=O (FF.out.ah f5);replace BB:=O (BB.out.fr f5 id);replace DD:=O (DD.out.fr f5 id);clear f5 c0 c1 c2 c3 c4 c5 c6 c7 c8 d0 d1 d2 d3 d4 d5 d6 d7 d8 d9 d10 d11;obtain ⟨c0,c1,c2,c3,c4,c5,c6,c7,c8⟩:=aU BB.out;obtain ⟨d0,d1,d2,d3,d4,d5,d6,d7,d8,d9,d10,d11⟩:=dx DD.out))
     go_ret
     refine ⟨aS ?_,FF.out⟩;have hb3:(decide (k=1) && decide (ot=ce))=false:=HB.out.symm;rw [←HR.out,HK.out,hb3,fK,t0,t1]
     rfl
    ·go_wp2_with (first
   |(go_at_call 275;refine (jw _ _ _ _).mono ?_;rintro e w5 ⟨rfl,f5⟩;replace FF:=O (FF.out.ah f5);replace BB:=O (BB.out.fr f5 id);replace DD:=O (DD.out.fr f5 id);clear f5 c0 c1 c2 c3 c4 c5 c6 c7 c8 d0 d1 d2 d3 d4 d5 d6 d7 d8 d9 d10 d11;obtain ⟨c0,c1,c2,c3,c4,c5,c6,c7,c8⟩:=aU BB.out;obtain ⟨d0,d1,d2,d3,d4,d5,d6,d7,d8,d9,d10,d11⟩:=dx DD.out))
     go_ret
     refine ⟨aS ?_,FF.out⟩;have hb3:(decide (k=1) && decide (ot=ce))=false:=HB.out.symm;rw [←HR.out,HK.out,hb3,fK,t0,t1,s1]
     rfl
    ·go_wp2_with (first
   |(go_at_call 275;refine (jw _ _ _ _).mono ?_;rintro e w5 ⟨rfl,f5⟩;replace FF:=O (FF.out.ah f5);replace BB:=O (BB.out.fr f5 id);replace DD:=O (DD.out.fr f5 id);clear f5 c0 c1 c2 c3 c4 c5 c6 c7 c8 d0 d1 d2 d3 d4 d5 d6 d7 d8 d9 d10 d11;obtain ⟨c0,c1,c2,c3,c4,c5,c6,c7,c8⟩:=aU BB.out;obtain ⟨d0,d1,d2,d3,d4,d5,d6,d7,d8,d9,d10,d11⟩:=dx DD.out))
     go_ret
     refine ⟨aS ?_,FF.out⟩;have hb3:(decide (k=1) && decide (ot=ce))=false:=HB.out.symm;rw [←HR.out,HK.out,hb3,fK,t0,t1,s1,s2]
     rfl
    ·go_wp2_with (first
   |(go_at_call 275;refine (jw _ _ _ _).mono ?_;rintro e w5 ⟨rfl,f5⟩;replace FF:=O (FF.out.ah f5);replace BB:=O (BB.out.fr f5 id);replace DD:=O (DD.out.fr f5 id);clear f5 c0 c1 c2 c3 c4 c5 c6 c7 c8 d0 d1 d2 d3 d4 d5 d6 d7 d8 d9 d10 d11;obtain ⟨c0,c1,c2,c3,c4,c5,c6,c7,c8⟩:=aU BB.out;obtain ⟨d0,d1,d2,d3,d4,d5,d6,d7,d8,d9,d10,d11⟩:=dx DD.out))
     go_ret
     refine ⟨aS ?_,FF.out⟩;have hb3:(decide (k=1) && decide (ot=ce))=false:=HB.out.symm;rw [←HR.out,HK.out,hb3,fK,t0,t1,s1,s2,s3]
     rfl
    ·go_wp2_with (first
   |(go_at_call 275;refine (jw _ _ _ _).mono ?_;rintro e w5 ⟨rfl,f5⟩;replace FF:=O (FF.out.ah f5);replace BB:=O (BB.out.fr f5 id);replace DD:=O (DD.out.fr f5 id);clear f5 c0 c1 c2 c3 c4 c5 c6 c7 c8 d0 d1 d2 d3 d4 d5 d6 d7 d8 d9 d10 d11;obtain ⟨c0,c1,c2,c3,c4,c5,c6,c7,c8⟩:=aU BB.out;obtain ⟨d0,d1,d2,d3,d4,d5,d6,d7,d8,d9,d10,d11⟩:=dx DD.out))
     go_ret
     refine ⟨aS ?_,FF.out⟩;have hb3:(decide (k=1) && decide (ot=ce))=false:=HB.out.symm;rw [←HR.out,HK.out,hb3,fK,t0,t1,s1,s2,s3,s4]
     rfl
    ·go_wp2_with (first
   |(go_at_call 275;refine (jw _ _ _ _).mono ?_;rintro e w5 ⟨rfl,f5⟩;replace FF:=O (FF.out.ah f5);replace BB:=O (BB.out.fr f5 id);replace DD:=O (DD.out.fr f5 id);clear f5 c0 c1 c2 c3 c4 c5 c6 c7 c8 d0 d1 d2 d3 d4 d5 d6 d7 d8 d9 d10 d11;obtain ⟨c0,c1,c2,c3,c4,c5,c6,c7,c8⟩:=aU BB.out;obtain ⟨d0,d1,d2,d3,d4,d5,d6,d7,d8,d9,d10,d11⟩:=dx DD.out))
     go_ret
     refine ⟨aS ?_,FF.out⟩;have hb3:(decide (k=1) && decide (ot=ce))=false:=HB.out.symm;rw [←HR.out,HK.out,hb3,fK,t0,t1,s1,s2,s3,s4,s5]
     rfl
    ·go_wp2_with (first
   |(go_at_call 275;refine (jw _ _ _ _).mono ?_;rintro e w5 ⟨rfl,f5⟩;replace FF:=O (FF.out.ah f5);replace BB:=O (BB.out.fr f5 id);replace DD:=O (DD.out.fr f5 id);clear f5 c0 c1 c2 c3 c4 c5 c6 c7 c8 d0 d1 d2 d3 d4 d5 d6 d7 d8 d9 d10 d11;obtain ⟨c0,c1,c2,c3,c4,c5,c6,c7,c8⟩:=aU BB.out;obtain ⟨d0,d1,d2,d3,d4,d5,d6,d7,d8,d9,d10,d11⟩:=dx DD.out))
     go_ret
     refine ⟨aS ?_,FF.out⟩;have hb3:(decide (k=1) && decide (ot=ce))=false:=HB.out.symm;rw [←HR.out,HK.out,hb3,fK,t0,t1,s1,s2,s3,s4,s5,s6]
     rfl
    ·go_wp2_with (first
   |(go_at_call 275;refine (jw _ _ _ _).mono ?_;rintro e w5 ⟨rfl,f5⟩;replace FF:=O (FF.out.ah f5);replace BB:=O (BB.out.fr f5 id);replace DD:=O (DD.out.fr f5 id);clear f5 c0 c1 c2 c3 c4 c5 c6 c7 c8 d0 d1 d2 d3 d4 d5 d6 d7 d8 d9 d10 d11;obtain ⟨c0,c1,c2,c3,c4,c5,c6,c7,c8⟩:=aU BB.out;obtain ⟨d0,d1,d2,d3,d4,d5,d6,d7,d8,d9,d10,d11⟩:=dx DD.out))
     go_ret
     refine ⟨aS ?_,FF.out⟩;have hb3:(decide (k=1) && decide (ot=ce))=false:=HB.out.symm;rw [←HR.out,HK.out,hb3,fK,t0,t1,s1,s2,s3,s4,s5,s6,s7]
     rfl
    ·go_wp2_with (first
   |(go_at_call 275;refine (jw _ _ _ _).mono ?_;rintro e w5 ⟨rfl,f5⟩;replace FF:=O (FF.out.ah f5);replace BB:=O (BB.out.fr f5 id);replace DD:=O (DD.out.fr f5 id);clear f5 c0 c1 c2 c3 c4 c5 c6 c7 c8 d0 d1 d2 d3 d4 d5 d6 d7 d8 d9 d10 d11;obtain ⟨c0,c1,c2,c3,c4,c5,c6,c7,c8⟩:=aU BB.out;obtain ⟨d0,d1,d2,d3,d4,d5,d6,d7,d8,d9,d10,d11⟩:=dx DD.out))
     go_ret
     refine ⟨aS ?_,FF.out⟩;have hb3:(decide (k=1) && decide (ot=ce))=false:=HB.out.symm;rw [←HR.out,HK.out,hb3,fK,t0,t1,s1,s2,s3,s4,s5,s6,s7]
     rfl
   ·go_wp2_with fail
    go_ret
    refine ⟨aS ?_,FF.out⟩;rw [←HR.out,HK.out];have:=HB.out.symm;simp only [Bool.and_eq_true,beq_iff_eq] at this
    simp [this.1,this.2]
 ·have hk' :inB 1 16 k=false:=by simpa using hk
  rw [if_neg hk,hk'];simp only [Fm.vals]
  go_wp2_with fail
  go_ret
  refine ⟨aS ?_,FF.out.alloc _⟩;rw [←HR.out,hk']
  rfl
theorem lZ (e:En)(w:World):
  Calls Tryz.prog 232 #[e.v] w fun r w' =>r= .returned (.bool (fF e))∧Fr No w w' :=by
 have HR:=fun W=>qy e 32 16 4 30 W dcd dcd dcd dcd dcd dcd dcd dcd;unfold fF;revert HR;generalize uX e 32 16 4 30=q;intro hr;have HR:=O hr;clear hr;obtain ⟨k,tick,te,ce,ot,ep,fr,un,n⟩:=e;unfold En.v at*;obtain ⟨FF,BB⟩:=aN (aj w (.cells #[.int .i64 k,.int .i64 tick,.int .i64 te,.int .i64 ce,.int .i64 ot,.int .i64 ep,.int .i64 fr,.int .i64 un,.int .i64 n] qE)) (Blk.new w qE #[.int .i64 k,.int .i64 tick,.int .i64 te,.int .i64 ce,.int .i64 ot,.int .i64 ep,.int .i64 fr,.int .i64 un,.int .i64 n]);obtain ⟨c0,c1,c2,c3,c4,c5,c6,c7,c8⟩:=aU BB.out
 go_in
 go_wp2_with fail
 refine (HR.out _).mono ?_;rintro e w5 ⟨rfl,f5⟩;replace FF:=O (FF.out.ah f5);clear f5
 go_wp2_with fail
 go_ret
 exact ⟨aS rfl,FF.out⟩
end Go.Proofs.YtodkhcbjpodgeaaGreat
