/-
  The contracts of the program's shapes: span.has, fits, Shape.
-/
import Derived.Test.YtjnfmfmglehmbaaGreatQ13
import Derived.Test.YtjnfmfmglehmbaaGreatQ12
namespace Go.Proofs.YtjnfmfmglehmbaaGreat
open Go.ChangeShapes Go.WideShapes Go.ChangeAt Go.RowKit
set_option linter.unusedVariables false
set_option maxRecDepth 100000
set_option maxHeartbeats 4000000
theorem lI (a b n:Int)(w:World):
  Calls Tryz.prog 184 #[.agg #[.int .i64 a,.int .i64 b],.int .i64 n] w fun e w' =>e= .returned (.bool (inB a b n))∧Fr No w w' :=by
 by_cases h1:a≤n
 ·by_cases h2:n≤b
  ·go_in
   go_wp2_with fail
   go_ret
   exact ⟨au (by simp [inB,h1,h2]),(Fr.refl _ _).alloc _⟩
  ·go_in
   go_wp2_with fail
   go_ret
   exact ⟨au (by simp [inB,h1,h2]),(Fr.refl _ _).alloc _⟩
 ·go_in
  go_wp2_with fail
  go_ret
  exact ⟨au (by unfold inB;rw [dff];rfl),(Fr.refl _ _).alloc _⟩
theorem nine:∀x0 x1 x2 x3 x4 x5 x6 x7 x8:Bool,(x0=false)∨(x0=true∧x1=false)∨(x0=true∧x1=true∧x2=false)∨(x0=true∧x1=true∧x2=true∧x3=false)∨(x0=true∧x1=true∧x2=true∧x3=true∧x4=false)∨(x0=true∧x1=true∧x2=true∧x3=true∧x4=true∧x5=false)∨(x0=true∧x1=true∧x2=true∧x3=true∧x4=true∧x5=true∧x6=false)∨(x0=true∧x1=true∧x2=true∧x3=true∧x4=true∧x5=true∧x6=true∧x7=false)∨(x0=true∧x1=true∧x2=true∧x3=true∧x4=true∧x5=true∧x6=true∧x7=true∧x8=false)∨(x0=true∧x1=true∧x2=true∧x3=true∧x4=true∧x5=true∧x6=true∧x7=true∧x8=true):=by
 intro x0 x1 x2 x3 x4 x5 x6 x7 x8
 cases x0 with
 |false=>exact .inl rfl
 |true=>
  cases x1 with
  |false=>exact .inr (.inl ⟨rfl,rfl⟩)
  |true=>
   cases x2 with
   |false=>exact .inr (.inr (.inl ⟨rfl,rfl,rfl⟩))
   |true=>
    cases x3 with
    |false=>exact .inr (.inr (.inr (.inl ⟨rfl,rfl,rfl,rfl⟩)))
    |true=>
     cases x4 with
     |false=>exact .inr (.inr (.inr (.inr (.inl ⟨rfl,rfl,rfl,rfl,rfl⟩))))
     |true=>
      cases x5 with
      |false=>exact .inr (.inr (.inr (.inr (.inr (.inl ⟨rfl,rfl,rfl,rfl,rfl,rfl⟩)))))
      |true=>
       cases x6 with
       |false=>exact .inr (.inr (.inr (.inr (.inr (.inr (.inl ⟨rfl,rfl,rfl,rfl,rfl,rfl,rfl⟩))))))
       |true=>
        cases x7 with
        |false=>exact .inr (.inr (.inr (.inr (.inr (.inr (.inr (.inl ⟨rfl,rfl,rfl,rfl,rfl,rfl,rfl,rfl⟩)))))))
        |true=>
         cases x8 with
         |false=>exact .inr (.inr (.inr (.inr (.inr (.inr (.inr (.inr (.inl ⟨rfl,rfl,rfl,rfl,rfl,rfl,rfl,rfl,rfl⟩))))))))
         |true=>
          exact .inr (.inr (.inr (.inr (.inr (.inr (.inr (.inr (.inr (⟨rfl,rfl,rfl,rfl,rfl,rfl,rfl,rfl,rfl⟩)))))))))
theorem dQ {w:World}{g:Nat}{f:Fm}(h:Blk w g jf f.vals):w.cell? ⟨g,0,none⟩=some (.int .i64 f.aS.lo)∧w.cell? ⟨g,1,none⟩=some (.int .i64 f.aS.hi)∧w.cell? ⟨g,2,none⟩=some (.int .i64 f.cell.lo)∧w.cell? ⟨g,3,none⟩=some (.int .i64 f.cell.hi)∧w.cell? ⟨g,4,none⟩=some (.int .i64 f.other.lo)∧w.cell? ⟨g,5,none⟩=some (.int .i64 f.other.hi)∧w.cell? ⟨g,6,none⟩=some (.int .i64 f.epoch.lo)∧w.cell? ⟨g,7,none⟩=some (.int .i64 f.epoch.hi)∧w.cell? ⟨g,8,none⟩=some (.int .i64 f.ticks.lo)∧w.cell? ⟨g,9,none⟩=some (.int .i64 f.ticks.hi)∧w.cell? ⟨g,10,none⟩=some (.int .i64 f.n.lo)∧w.cell? ⟨g,11,none⟩=some (.int .i64 f.n.hi):=
 ⟨h.cell 0,h.cell 1,h.cell 2,h.cell 3,h.cell 4,h.cell 5,h.cell 6,h.cell 7,h.cell 8,h.cell 9,h.cell 10,h.cell 11⟩
theorem gP (x:Int):inB 0 1073741824 x=(decide (0≤x) && decide (x≤1073741824)):=rfl
set_option maxHeartbeats 8000000 in
theorem agi (e:En)(nt nc nr nv:Int)(w:World)(h1: -4611686018427387904≤nt)(h2:nt≤4611686018427387904)(h3: -4611686018427387904≤nc)(h4:nc≤4611686018427387904)(h5: -4611686018427387904≤nr)(h6:nr≤4611686018427387904)(h7: -4611686018427387904≤nv)(h8:nv≤4611686018427387904):
  Calls Tryz.prog 171 #[e.v,.agg #[.int .i64 nt,.int .i64 nc,.int .i64 nr,.int .i64 nv]] w fun r w' =>r= .returned (.bool (wz e nt nc nr nv))∧Fr No w w' :=by
 have hF:=fun W=>aat e.kind nt nc nr nv W h1 h2 h3 h4 h5 h6 h7 h8;unfold zN at hF;obtain ⟨R,hR⟩:∃R:Bool,wz e nt nc nr nv=R:=⟨_,rfl⟩;rw [hR];unfold wz at hR;revert hF hR;generalize mZ e.kind nt nc nr nv=f;intro hF hR;clear h1 h2 h3 h4 h5 h6 h7 h8;obtain ⟨k,tick,te,ce,ot,ep,fr,un,n⟩:=e;unfold En.v at*;simp only [Sp.has] at*;obtain ⟨HF,HR⟩:=aO hF hR;clear hF hR
 go_in
 go_wp2_with fail
 refine (HF.out _).mono ?_;rintro e w1 ⟨rfl,f1⟩;obtain ⟨FF,BB⟩:=aO (((aj w (.cells #[.int .i64 k,.int .i64 tick,.int .i64 te,.int .i64 ce,.int .i64 ot,.int .i64 ep,.int .i64 fr,.int .i64 un,.int .i64 n] dR)).alloc (.cells #[.int .i64 nt,.int .i64 nc,.int .i64 nr,.int .i64 nv] amk)).ah f1) (((Blk.new w dR #[.int .i64 k,.int .i64 tick,.int .i64 te,.int .i64 ce,.int .i64 ot,.int .i64 ep,.int .i64 fr,.int .i64 un,.int .i64 n]).dH (.cells #[.int .i64 nt,.int .i64 nc,.int .i64 nr,.int .i64 nv] amk)).fr f1 id);clear f1 HF;obtain ⟨c0,c1,c2,c3,c4,c5,c6,c7,c8⟩:=aB BB.out
 by_cases hk:inB 1 16 k=true
 ·rw [if_pos hk,hk]
  simp only [Fm.vals];replace BB:=O (BB.out.dH (.cells f.vals jf));replace FF:=O (FF.out.alloc (.cells f.vals jf));have DD:=O (Blk.new w1 jf f.vals)
  go_upto_region 2 with fail
  rw [show w1.alloc (.cells #[.int .i64 f.aS.lo,.int .i64 f.aS.hi,.int .i64 f.cell.lo,.int .i64 f.cell.hi,.int .i64 f.other.lo,.int .i64 f.other.hi,.int .i64 f.epoch.lo,.int .i64 f.epoch.hi,.int .i64 f.ticks.lo,.int .i64 f.ticks.hi,.int .i64 f.n.lo,.int .i64 f.n.hi] jf)=w1.alloc (.cells f.vals jf) from rfl];obtain ⟨W,hW⟩:∃W,W=w1.alloc (.cells f.vals jf):=⟨_,rfl⟩;rw [←hW] at BB FF DD ⊢;obtain ⟨g,hg⟩:∃g,g=w1.heap.size:=⟨_,rfl⟩;rw [←hg] at DD ⊢;clear hW hg c0 c1 c2 c3 c4 c5 c6 c7 c8;obtain ⟨c0,c1,c2,c3,c4,c5,c6,c7,c8⟩:=aB BB.out;obtain ⟨b,hb⟩:∃b,b=((k == 1) && (ot == ce)):=⟨_,rfl⟩;obtain ⟨HB,HK⟩:=aO hb hk;clear hb hk
  go_cut [27] (fun x wx=>x= .bool b∧wx=W)
  case first=>
   cases hk1:(k == 1)
   ·go_wp2_with fail
    go_meet
    exact ⟨by rw [HB.out,hk1];rfl,rfl⟩
   ·go_wp2_with fail
    go_meet
    exact ⟨by rw [HB.out,hk1];rfl,rfl⟩
  case rest=>
   obtain ⟨rfl,rfl⟩:=hcut
   cases b
   ·obtain ⟨d0,d1,d2,d3,d4,d5,d6,d7,d8,d9,d10,d11⟩:=dQ DD.out
    rcases nine (decide (0≤tick)) (decide (tick≤1073741824)) (inB f.aS.lo f.aS.hi te) (inB f.cell.lo f.cell.hi ce) (inB f.other.lo f.other.hi ot) (inB f.epoch.lo f.epoch.hi ep) (inB f.ticks.lo f.ticks.hi fr) (inB f.ticks.lo f.ticks.hi un) (inB f.n.lo f.n.hi n) with t0|⟨t0,t1⟩|⟨t0,t1,s1⟩|⟨t0,t1,s1,s2⟩|⟨t0,t1,s1,s2,s3⟩|⟨t0,t1,s1,s2,s3,s4⟩|⟨t0,t1,s1,s2,s3,s4,s5⟩|⟨t0,t1,s1,s2,s3,s4,s5,s6⟩|⟨t0,t1,s1,s2,s3,s4,s5,s6,s7⟩|⟨t0,t1,s1,s2,s3,s4,s5,s6,s7⟩
    ·go_wp2_with (first
   |(go_at_call 184;refine (lI _ _ _ _).mono ?_;rintro e w5 ⟨rfl,f5⟩;replace FF:=O (FF.out.ah f5);replace BB:=O (BB.out.fr f5 id);replace DD:=O (DD.out.fr f5 id);clear f5 c0 c1 c2 c3 c4 c5 c6 c7 c8 d0 d1 d2 d3 d4 d5 d6 d7 d8 d9 d10 d11;obtain ⟨c0,c1,c2,c3,c4,c5,c6,c7,c8⟩:=aB BB.out;obtain ⟨d0,d1,d2,d3,d4,d5,d6,d7,d8,d9,d10,d11⟩:=dQ DD.out))
     go_ret
     refine ⟨au ?_,FF.out⟩;have hb3:(decide (k=1) && decide (ot=ce))=false:=HB.out.symm;rw [←HR.out,HK.out,hb3,gP,t0]
     rfl
    ·go_wp2_with (first
   |(go_at_call 184;refine (lI _ _ _ _).mono ?_;rintro e w5 ⟨rfl,f5⟩;replace FF:=O (FF.out.ah f5);replace BB:=O (BB.out.fr f5 id);replace DD:=O (DD.out.fr f5 id);clear f5 c0 c1 c2 c3 c4 c5 c6 c7 c8 d0 d1 d2 d3 d4 d5 d6 d7 d8 d9 d10 d11;obtain ⟨c0,c1,c2,c3,c4,c5,c6,c7,c8⟩:=aB BB.out;obtain ⟨d0,d1,d2,d3,d4,d5,d6,d7,d8,d9,d10,d11⟩:=dQ DD.out))
     go_ret
     refine ⟨au ?_,FF.out⟩;have hb3:(decide (k=1) && decide (ot=ce))=false:=HB.out.symm;rw [←HR.out,HK.out,hb3,gP,t0,t1]
     rfl
    ·go_wp2_with (first
   |(go_at_call 184;refine (lI _ _ _ _).mono ?_;rintro e w5 ⟨rfl,f5⟩;replace FF:=O (FF.out.ah f5);replace BB:=O (BB.out.fr f5 id);replace DD:=O (DD.out.fr f5 id);clear f5 c0 c1 c2 c3 c4 c5 c6 c7 c8 d0 d1 d2 d3 d4 d5 d6 d7 d8 d9 d10 d11;obtain ⟨c0,c1,c2,c3,c4,c5,c6,c7,c8⟩:=aB BB.out;obtain ⟨d0,d1,d2,d3,d4,d5,d6,d7,d8,d9,d10,d11⟩:=dQ DD.out))
     go_ret
     refine ⟨au ?_,FF.out⟩;have hb3:(decide (k=1) && decide (ot=ce))=false:=HB.out.symm;rw [←HR.out,HK.out,hb3,gP,t0,t1,s1]
     rfl
    ·go_wp2_with (first
   |(go_at_call 184;refine (lI _ _ _ _).mono ?_;rintro e w5 ⟨rfl,f5⟩;replace FF:=O (FF.out.ah f5);replace BB:=O (BB.out.fr f5 id);replace DD:=O (DD.out.fr f5 id);clear f5 c0 c1 c2 c3 c4 c5 c6 c7 c8 d0 d1 d2 d3 d4 d5 d6 d7 d8 d9 d10 d11;obtain ⟨c0,c1,c2,c3,c4,c5,c6,c7,c8⟩:=aB BB.out;obtain ⟨d0,d1,d2,d3,d4,d5,d6,d7,d8,d9,d10,d11⟩:=dQ DD.out))
     go_ret
     refine ⟨au ?_,FF.out⟩;have hb3:(decide (k=1) && decide (ot=ce))=false:=HB.out.symm;rw [←HR.out,HK.out,hb3,gP,t0,t1,s1,s2]
     rfl
    ·go_wp2_with (first
   |(go_at_call 184;refine (lI _ _ _ _).mono ?_;rintro e w5 ⟨rfl,f5⟩;replace FF:=O (FF.out.ah f5);replace BB:=O (BB.out.fr f5 id);replace DD:=O (DD.out.fr f5 id);clear f5 c0 c1 c2 c3 c4 c5 c6 c7 c8 d0 d1 d2 d3 d4 d5 d6 d7 d8 d9 d10 d11;obtain ⟨c0,c1,c2,c3,c4,c5,c6,c7,c8⟩:=aB BB.out;obtain ⟨d0,d1,d2,d3,d4,d5,d6,d7,d8,d9,d10,d11⟩:=dQ DD.out))
     go_ret
     refine ⟨au ?_,FF.out⟩;have hb3:(decide (k=1) && decide (ot=ce))=false:=HB.out.symm;rw [←HR.out,HK.out,hb3,gP,t0,t1,s1,s2,s3]
     rfl
    ·go_wp2_with (first
   |(go_at_call 184;refine (lI _ _ _ _).mono ?_;rintro e w5 ⟨rfl,f5⟩;replace FF:=O (FF.out.ah f5);replace BB:=O (BB.out.fr f5 id);replace DD:=O (DD.out.fr f5 id);clear f5 c0 c1 c2 c3 c4 c5 c6 c7 c8 d0 d1 d2 d3 d4 d5 d6 d7 d8 d9 d10 d11;obtain ⟨c0,c1,c2,c3,c4,c5,c6,c7,c8⟩:=aB BB.out;obtain ⟨d0,d1,d2,d3,d4,d5,d6,d7,d8,d9,d10,d11⟩:=dQ DD.out))
     go_ret
     refine ⟨au ?_,FF.out⟩;have hb3:(decide (k=1) && decide (ot=ce))=false:=HB.out.symm;rw [←HR.out,HK.out,hb3,gP,t0,t1,s1,s2,s3,s4]
     rfl
    ·go_wp2_with (first
   |(go_at_call 184;refine (lI _ _ _ _).mono ?_;rintro e w5 ⟨rfl,f5⟩;replace FF:=O (FF.out.ah f5);replace BB:=O (BB.out.fr f5 id);replace DD:=O (DD.out.fr f5 id);clear f5 c0 c1 c2 c3 c4 c5 c6 c7 c8 d0 d1 d2 d3 d4 d5 d6 d7 d8 d9 d10 d11;obtain ⟨c0,c1,c2,c3,c4,c5,c6,c7,c8⟩:=aB BB.out;obtain ⟨d0,d1,d2,d3,d4,d5,d6,d7,d8,d9,d10,d11⟩:=dQ DD.out))
     go_ret
     refine ⟨au ?_,FF.out⟩;have hb3:(decide (k=1) && decide (ot=ce))=false:=HB.out.symm;rw [←HR.out,HK.out,hb3,gP,t0,t1,s1,s2,s3,s4,s5]
     rfl
    ·go_wp2_with (first
   |(go_at_call 184;refine (lI _ _ _ _).mono ?_;rintro e w5 ⟨rfl,f5⟩;replace FF:=O (FF.out.ah f5);replace BB:=O (BB.out.fr f5 id);replace DD:=O (DD.out.fr f5 id);clear f5 c0 c1 c2 c3 c4 c5 c6 c7 c8 d0 d1 d2 d3 d4 d5 d6 d7 d8 d9 d10 d11;obtain ⟨c0,c1,c2,c3,c4,c5,c6,c7,c8⟩:=aB BB.out;obtain ⟨d0,d1,d2,d3,d4,d5,d6,d7,d8,d9,d10,d11⟩:=dQ DD.out))
     go_ret
     refine ⟨au ?_,FF.out⟩;have hb3:(decide (k=1) && decide (ot=ce))=false:=HB.out.symm;rw [←HR.out,HK.out,hb3,gP,t0,t1,s1,s2,s3,s4,s5,s6]
     rfl
    ·go_wp2_with (first
   |(go_at_call 184;refine (lI _ _ _ _).mono ?_;rintro e w5 ⟨rfl,f5⟩;replace FF:=O (FF.out.ah f5);replace BB:=O (BB.out.fr f5 id);replace DD:=O (DD.out.fr f5 id);clear f5 c0 c1 c2 c3 c4 c5 c6 c7 c8 d0 d1 d2 d3 d4 d5 d6 d7 d8 d9 d10 d11;obtain ⟨c0,c1,c2,c3,c4,c5,c6,c7,c8⟩:=aB BB.out;obtain ⟨d0,d1,d2,d3,d4,d5,d6,d7,d8,d9,d10,d11⟩:=dQ DD.out))
     go_ret
     refine ⟨au ?_,FF.out⟩;have hb3:(decide (k=1) && decide (ot=ce))=false:=HB.out.symm;rw [←HR.out,HK.out,hb3,gP,t0,t1,s1,s2,s3,s4,s5,s6,s7]
     rfl
    ·go_wp2_with (first
   |(go_at_call 184;refine (lI _ _ _ _).mono ?_;rintro e w5 ⟨rfl,f5⟩;replace FF:=O (FF.out.ah f5);replace BB:=O (BB.out.fr f5 id);replace DD:=O (DD.out.fr f5 id);clear f5 c0 c1 c2 c3 c4 c5 c6 c7 c8 d0 d1 d2 d3 d4 d5 d6 d7 d8 d9 d10 d11;obtain ⟨c0,c1,c2,c3,c4,c5,c6,c7,c8⟩:=aB BB.out;obtain ⟨d0,d1,d2,d3,d4,d5,d6,d7,d8,d9,d10,d11⟩:=dQ DD.out))
     go_ret
     refine ⟨au ?_,FF.out⟩;have hb3:(decide (k=1) && decide (ot=ce))=false:=HB.out.symm;rw [←HR.out,HK.out,hb3,gP,t0,t1,s1,s2,s3,s4,s5,s6,s7]
     rfl
   ·go_wp2_with fail
    go_ret
    refine ⟨au ?_,FF.out⟩;rw [←HR.out,HK.out];have:=HB.out.symm;simp only [Bool.and_eq_true,beq_iff_eq] at this
    simp [this.1,this.2]
 ·have hk' :inB 1 16 k=false:=by simpa using hk
  rw [if_neg hk,hk'];simp only [Fm.vals]
  go_wp2_with fail
  go_ret
  refine ⟨au ?_,FF.out.alloc _⟩;rw [←HR.out,hk']
  rfl
theorem pR (e:En)(w:World):
  Calls Tryz.prog 151 #[e.v] w fun r w' =>r= .returned (.bool (dW e))∧Fr No w w' :=by
 have HR:=fun W=>agi e 32 16 4 30 W dcd dcd dcd dcd dcd dcd dcd dcd;unfold dW;revert HR;generalize wz e 32 16 4 30=q;intro hr;have HR:=O hr;clear hr;obtain ⟨k,tick,te,ce,ot,ep,fr,un,n⟩:=e;unfold En.v at*;obtain ⟨FF,BB⟩:=aO (aj w (.cells #[.int .i64 k,.int .i64 tick,.int .i64 te,.int .i64 ce,.int .i64 ot,.int .i64 ep,.int .i64 fr,.int .i64 un,.int .i64 n] dR)) (Blk.new w dR #[.int .i64 k,.int .i64 tick,.int .i64 te,.int .i64 ce,.int .i64 ot,.int .i64 ep,.int .i64 fr,.int .i64 un,.int .i64 n]);obtain ⟨c0,c1,c2,c3,c4,c5,c6,c7,c8⟩:=aB BB.out
 go_in
 go_wp2_with fail
 refine (HR.out _).mono ?_;rintro e w5 ⟨rfl,f5⟩;replace FF:=O (FF.out.ah f5);clear f5
 go_wp2_with fail
 go_ret
 exact ⟨au rfl,FF.out⟩
theorem aiu:∀(K S k:Nat) (h:k<K),(leN K S)[k]'(by rw [cK];exact h)=UInt8.ofNat (S / 256 ^ k % 256):=by
 intro K
 induction K with
 |zero=>intro S k h;omega
 |succ K ih=>
  intro S k h
  rcases k with _|k
  ·simp [leN]
  ·simp only [leN,List.getElem_cons_succ]
   rw [ih (S / 256) k oy,Nat.div_div_eq_div_mul,Nat.pow_succ,Nat.mul_comm]
set_option maxHeartbeats 1000000 in
theorem ad9 (A:Option Addr)(n c:Nat)(S:Nat)(l:List UInt8)(w:World)(B:Nat)(hA:A=none→n=0)(hl:l.length=n)(hr:Rd w B A (l.map bv))(hB:B≤w.heap.size)(_hS:S<18446744073709551616)(hsz:n≤140737488355000):
  Calls Tryz.prog 167 #[.slice A n c,.int .u64 (S:Int)] w (ajp w (l++leN 8 S)):=by
 obtain ⟨i0,hi0,hz0,hz1,hz2⟩:=info_parts bD;obtain ⟨HA,HN,HR⟩:=bP hA hl hr;clear hA hl hr
 go_in
 go_wp2_with (at_builtin;refine ay _ rfl (.tmp 7) (.tmp 8) _ rfl 0 5 i0 _ 1 Tryz.underlying128 hi0 hz0 hz1 hz2 rfl _ 0 [] rfl (Own.made w 5).1 B A n c (l.map bv) rfl ?c1 ?c2 ?c3 (dS l) ?c4 ?c5 (Nat.zero_le _) ?_)
 case c1=>exact HA.out
 case c2=>exact HR.out.ak (aj _ _) hB
 case c3=>rw [List.length_map,HN.out]
 case c4=>unfold maxLen;omega
 case c5=>omega
 intro v0 w0 happ;obtain ⟨o0,f0⟩:=(Own.made w 5).aT (by simp) rfl (by rw [List.length_map,HN.out]) happ;rw [List.nil_append] at o0;obtain ⟨A0,c0,rfl,n0⟩:=o0.form;rw [List.length_map,HN.out] at o0 ⊢;obtain ⟨O0,F0⟩:=aO o0 ((aj w (.cells #[] 5)).aA f0 fun i hi=>hi);clear happ o0 f0 n0
 go_wp2_with fail
 go_loopw [5,6] (fun b i wr=>∃(A' :Option Addr) (c' k:Nat),k≤8∧i= .int .i64 (k:Int)∧b= .slice A' (n+k) c'∧Own wr (fun i=>w.heap.size≤i) 5 (.slice A' (n+k) c') ((l++(leN 8 S).take k).map bv)∧Fr No w wr) (fun _ i _=>8-(intOf i).toNat)
 case atStart=>exact ⟨A0,c0,0,Nat.zero_le _,rfl,rfl,by simpa using O0.out,F0.out⟩
 case round=>
  obtain ⟨A',c',k,hk,rfl,rfl,ho,hf⟩:=hrel;obtain ⟨O2,F2⟩:=aO ho hf;have hs2:w.heap.size≤wr.heap.size:=hf.size;clear ho hf
  by_cases hlt:k<8
  ·have hb:[Value.int .u8 ((S:Int) / 2 ^ (8*k) % 256)]=[UInt8.ofNat (S / 256 ^ k % 256)].map bv:=by
    simp only [List.map_cons,List.map_nil,bv,UInt8.toNat_ofNat']
    congr 2
    have e:((S:Int) / 2 ^ (8*k))=((S / 256 ^ k:Nat):Int):=by
     rw [←show (2:Nat) ^ (8*k)=256 ^ k from by rw [Nat.pow_mul]]
     push_cast
     rfl
    rw [e]
    omega
   have hsn:(leN 8 S).take (k+1)=(leN 8 S).take k++[UInt8.ofNat (S / 256 ^ k % 256)]:=by
    rw [List.take_succ_eq_append_getElem (by rw [cK];exact hlt),aiu 8 S k hlt]
   obtain ⟨HB,HSN⟩:=aO hb hsn;have HTL:Hid (((leN 8 S).take k).length=k):=by
    show ((leN 8 S).take k).length=k
    rw [List.length_take,cK]
    omega
   have P2:=O (O2.out.ak (aj wr (.cells #[.int .u8 ((S:Int) / 2 ^ (8*k) % 256)] 5)));clear hb hsn
   go_wp2_with (at_builtin;refine ay _ rfl (.tmp 14) (.tmp 21) _ rfl 0 5 i0 _ 1 Tryz.underlying128 hi0 hz0 hz1 hz2 rfl _ (n+k) ((l++(leN 8 S).take k).map bv) rfl ?d0 (wr.heap.size+1) _ 1 1 ([UInt8.ofNat (S / 256 ^ k % 256)].map bv) rfl (fun h=>by cases h) ?d1 rfl (dS _) ?d4 ?d5 (Nat.zero_le _) ?_)
   case d0=>exact P2.out.own (by rw [List.length_map,List.length_append,HN.out,HTL.out])
   case d1=>exact Rd.new wr [.int .u8 ((S:Int) / 2 ^ (8*k) % 256)] 5 HB.out
   case d4=>unfold maxLen;omega
   case d5=>omega
   intro v3 w3 happ;obtain ⟨o3,f3⟩:=P2.out.aT (n:=n+k) (m:=1) (news:=[bv (UInt8.ofNat (S / 256 ^ k % 256))]) (v' :=v3) (w' :=w3) (by simp;omega) (by rw [List.length_map,List.length_append,HN.out,HTL.out]) rfl (by simpa using happ);have e3:(l++(leN 8 S).take k).map bv++[bv (UInt8.ofNat (S / 256 ^ k % 256))]=(l++(leN 8 S).take (k+1)).map bv:=by rw [HSN.out];simp
   have hl3:((l++(leN 8 S).take (k+1)).map bv).length=n+(k+1):=by
    rw [List.length_map,List.length_append,HN.out,List.length_take,cK]
    omega
   rw [e3] at o3;obtain ⟨A3,c3,rfl,n3⟩:=o3.form;rw [hl3] at o3 ⊢;obtain ⟨O3,F3⟩:=aO o3 ((F2.out.alloc (.cells #[.int .u8 ((S:Int) / 2 ^ (8*k) % 256)] 5)).aA f3 fun i hi=>hi);clear happ o3 f3 n3 e3 hl3
   go_wp2_with fail
   go_roundw
   case rel=>exact ⟨A3,c3,k+1,by omega,by go_num,rfl,O3.out,F3.out⟩
   case measure=>simp [intOf];omega
  ·obtain rfl:k=8:=by omega
   go_wp2_with fail
   go_ret
   refine ⟨A',c',?_,?_,F2.out⟩
   ·rw [List.length_append,cK,HN.out];rfl
   ·rw [List.length_append,cK,HN.out]
    have:=O2.out
    rwa [List.take_of_length_le (by rw [cK];omega)] at this
set_option maxHeartbeats 1000000 in
theorem zI (A:Option Addr)(c:Nat)(l:List UInt8)(w:World)(B:Nat)(hl:l.length=8)(hr:Rd w B A (l.map bv)):
  Calls Tryz.prog 177 #[.slice A 8 c] w fun e w' =>e= .returned (.int .u64 ((fu l:Nat):Int))∧w=w' :=by
 obtain ⟨HL,HR⟩:=aO hl hr;clear hl hr
 go_in
 go_wp2_with fail
 go_loop [3,4] (fun s i=>∃(j:Nat),j≤8∧i= .int .i64 (j:Int)∧s= .int .u64 ((fu (l.take j):Nat):Int)) (fun _ i=>8-(intOf i).toNat)
 case atStart=>exact ⟨0,Nat.zero_le _,rfl,rfl⟩
 case round=>
  obtain ⟨j,hj,rfl,rfl⟩:=hrel
  by_cases hlt:j<8
  ·obtain ⟨b,off,rfl,_,hc⟩:=HR.out.at_ (by rw [List.length_map,HL.out];omega)
   have hck:=hc j (by rw [List.length_map,HL.out];omega);simp only [List.getElem_map] at hck;have hx256:(l[j]'(by rw [HL.out];omega)).toNat<256:=UInt8.toNat_lt _;have hor:=ac6 (l.take j) (l[j]'(by rw [HL.out];omega)) j (by rw [List.length_take,HL.out];omega) hlt;have hsn:l.take (j+1)=l.take j++[l[j]'(by rw [HL.out];omega)]:=List.take_succ_eq_append_getElem (by rw [HL.out];omega);obtain ⟨HO,HSN⟩:=aO hor hsn;clear hc hor hsn
   go_wp2_with fail
   refine ⟨⟨j+1,by omega,by go_num,?_⟩,by simp [intOf];omega⟩;rw [HO.out,HSN.out]
  ·obtain rfl:j=8:=by omega
   go_wp2_with fail
   go_ret
   refine ⟨gW ?_,rfl⟩;rw [List.take_of_length_le (by rw [HL.out];omega)]
set_option maxHeartbeats 2000000 in
theorem sI (A:Option Addr)(n c:Nat)(key:Int)(A2:Option Addr)(m c2:Nat)(l p:List UInt8)(w:World)(B:Nat)(hA:A=none→n=0)(hl:l.length=n)(hr:Rd w B A (l.map bv))(hA2:A2=none→m=0)(hp:p.length=m)(hr2:Rd w B A2 (p.map bv))(hB:B≤w.heap.size)(hsz:n≤140737488280000)(hm:m≤65536):
  Calls Tryz.prog 141 #[.slice A n c,.int .i64 key,.slice A2 m c2] w (ajp w (l++eT key p)):=by
 obtain ⟨i0,hi0,hz0,hz1,hz2⟩:=info_parts bD;have hput:eT key p=qK key p++p:=by unfold eT;rw [if_pos (by rw [hp];exact hm)]
 have hel:=aP (aV (m:Int)) (bq _ oy oy);obtain ⟨S0,hS0,hSl⟩:=kT (pO key p) (pQ key p);have al8 :(wM key p).toNat=S0:=by rw [hS0,Int.toNat_natCast]
 have hhead:qK key p=bX (aV (m:Int))++leN 8 S0:=by unfold qK;rw [hp,al8]
 rw [hput,hhead];obtain ⟨HA,HN,HR,HA2,HP,HR2,HS⟩:=nC hA hl hr hA2 hp hr2 hS0;have ht:decide ((65536:Int)<(m:Int))=false:=by simp;omega
 clear hA hl hr hA2 hp hr2 hS0 al8 hput hhead
 go_in
 go_wp2_with fail
 refine (fO A n c (m:Int) l _ B HA.out HN.out HR.out hB oy oy oy).mono ?_;rintro e w1 ⟨A1,c1,rfl,o1,f1⟩;generalize bX (aV (m:Int))=E at*;obtain ⟨O1,F1⟩:=aO o1 f1;clear o1 f1
 go_wp2_with fail
 refine (tZ _ _ _ _ p _ HP.out mxl (HR2.out.ak F1.out hB)).mono ?_;rintro e w2 ⟨rfl,rfl⟩;rw [HS.out]
 go_wp2_with fail
 refine (ad9 A1 (n+E.length) c1 S0 (l++E) _ _ O1.out.len.2 (by rw [List.length_append,HN.out]) O1.out.rd (Nat.le_refl _) hSl oy).mono ?_;rintro e w3 ⟨A3,c3,rfl,o3,f3⟩;have hs1:=F1.out.size;have hl3:(l++E++leN 8 S0).length=n+E.length+8:=by simp only [List.length_append,cK,HN.out]
 rw [hl3] at o3 ⊢;obtain ⟨O3,F3⟩:=aO (o3.mono (G:=fun i=>w.heap.size≤i) fun i hi=>Nat.le_trans hs1 hi) (F1.out.ah f3);have HL3:Hid (((l++E++leN 8 S0).map bv).length=n+E.length+8):=by
  show ((l++E++leN 8 S0).map bv).length=n+E.length+8
  rw [List.length_map];exact hl3
 have hs3:w.heap.size≤w3.heap.size:=F3.out.size;clear o3 f3 hs1 hl3 O1 F1
 go_wp2_with (at_builtin;refine ay _ rfl (.tmp 20) (.tmp 21) _ rfl 0 5 i0 _ 1 Tryz.underlying128 hi0 hz0 hz1 hz2 rfl _ (n+E.length+8) ((l++E++leN 8 S0).map bv) rfl ?c0 B A2 m c2 (p.map bv) rfl ?c1 ?c2 ?c3 (dS _) ?c4 ?c5 (Nat.zero_le _) ?_)
 case c0=>exact O3.out.own HL3.out
 case c1=>exact HA2.out
 case c2=>exact HR2.out.ak F3.out hB
 case c3=>rw [List.length_map,HP.out]
 case c4=>unfold maxLen;omega
 case c5=>omega
 intro v4 w4 happ;obtain ⟨o4,f4⟩:=O3.out.aT (n:=n+E.length+8) (m:=m) (news:=p.map bv) (v' :=v4) (w' :=w4) hs3 HL3.out (by rw [List.length_map,HP.out]) (by simpa using happ);have e4:(l++E++leN 8 S0).map bv++p.map bv=(l++(E++leN 8 S0++p)).map bv:=by simp
 rw [e4] at o4;obtain ⟨A4,c4,rfl,n4⟩:=o4.form;rw [List.length_map] at o4;obtain ⟨O4,F4⟩:=aO o4 (F3.out.aA f4 fun i hi=>hi);clear happ o4 f4 n4 e4;rw [List.length_map];generalize (l++(E++leN 8 S0++p))=r at*
 go_wp2_with fail
 go_ret
 exact ⟨A4,c4,rfl,O4.out,F4.out⟩
set_option maxHeartbeats 2000000 in
theorem xE (A:Option Addr)(n c:Nat)(key:Int)(l:List UInt8)(w:World)(B:Nat)(hA:A=none→n=0)(hl:l.length=n)(hr:Rd w B A (l.map bv))(hB:B≤w.heap.size)(hsz:n≤140737488355328)(hnc:n≤c):
  Calls Tryz.prog 163 #[.slice A n c,.int .i64 key] w (jq w (aN key l)):=by
 obtain ⟨i0,hi0,hz0,hz1,hz2⟩:=info_parts bD;obtain ⟨HA,HL,HR⟩:=bP hA hl hr;have HD:Hid (aN key l=aN key l):=rfl;unfold aN at HD;clear hA hl hr
 by_cases he:(dw l).e=0
 ·obtain ⟨N,n1,n2,n3,n4,n5,n6⟩:=tO l he
  obtain ⟨k,hk⟩:∃k,k=(dw l).k:=⟨_,rfl⟩;have hkn:k≤n:=by rw [hk,n4,←HL.out];exact n5
  have hTK:dw l=⟨N,k,0⟩:=by
   rcases ht:dw l with ⟨x,y,z⟩
   rw [ht] at n3 he hk;simp only at n3 he hk;rw [n3,he,hk]
  have TK:=O hTK;clear he n3 n4 n5 n6 hk hTK
  by_cases hN0:N<0
  ·have HF:Hid (aN key l=lN 18):=by
    show aN key l=lN 18
    unfold aN;rw [TK.out,if_neg (by simp),if_pos hN0]
   rw [HF.out]
   go_in
   go_wp2_with fail
   refine (fM _ _ _ l _ _ HL.out mxl HR.out).mono ?_;rintro e w1 ⟨rfl,rfl⟩;rw [TK.out]
   go_wp2_with fail
   go_ret3
   exact jq.err _ _
  ·by_cases hN1:65536<N
   ·have HF:Hid (aN key l=lN 2):=by
     show aN key l=lN 2
     unfold aN;rw [TK.out,if_neg (by simp),if_neg hN0,if_pos hN1]
    rw [HF.out]
    go_in
    go_wp2_with fail
    refine (fM _ _ _ l _ _ HL.out mxl HR.out).mono ?_;rintro e w1 ⟨rfl,rfl⟩;rw [TK.out]
    go_wp2_with fail
    go_ret3
    exact jq.err _ _
   ·obtain ⟨m,rfl⟩:∃m:Nat,N=(m:Int):=⟨N.toNat,by omega⟩
    by_cases hsh:(n:Int)-k<8+(m:Int)
    ·have u2:decide ((n:Int)-(k:Int)<(m:Int)+8)=true:=by simp;omega
     have u0:decide ((m:Int)<0)=false:=by simp
     have u1:decide ((65536:Int)<(m:Int))=false:=by simp;omega
     have HF:Hid (aN key l=lN 17):=by
      show aN key l=lN 17
      unfold aN;rw [TK.out,if_neg (by simp),if_neg hN0,if_neg hN1,if_pos (by rw [HL.out];exact hsh)]
     rw [HF.out]
     go_in
     go_wp2_with fail
     refine (fM _ _ _ l _ _ HL.out mxl HR.out).mono ?_;rintro e w1 ⟨rfl,rfl⟩;rw [TK.out]
     go_wp2_with fail
     go_ret3
     exact jq.err _ _
    ·have hfit:k+8+m≤n:=by omega
     have hm1:m≤65536:=by omega
     clear hN0 hN1
     go_in
     go_wp2_with fail
     refine (fM _ _ _ l _ _ HL.out mxl HR.out).mono ?_;rintro e w1 ⟨rfl,rfl⟩;rw [TK.out];have u0:decide ((m:Int)<0)=false:=by simp
     have u1:decide ((65536:Int)<(m:Int))=false:=by simp;omega
     have u2:decide ((n:Int)-(k:Int)<(m:Int)+8)=false:=by simp;omega
     have hlm:k+8+m-(k+8)=m:=by omega
     have hk8:k+8≤c:=by omega
     have hcl:¬c=k:=by omega
     obtain ⟨b,off,rfl,hbB,hc⟩:=HR.out.at_ (by rw [List.length_map,HL.out];omega);clear hc;obtain ⟨U,hU⟩:∃U,U=fu ((l.drop k).take 8):=⟨_,rfl⟩;have HU:=O hU;obtain ⟨p,hp⟩:∃p,p=(l.drop (k+8)).take m:=⟨_,rfl⟩;have HPL:Hid (p.length=m):=by
      show p.length=m
      rw [hp,List.length_take,List.length_drop,HL.out]
      omega
     have HQL:Hid (((l.drop k).take 8).length=8):=by
      show ((l.drop k).take 8).length=8
      rw [List.length_take,List.length_drop,HL.out]
      omega
     have hpm:p.length≤65536:=by rw [HPL.out];exact hm1
     obtain ⟨S0,hS0,hSl⟩:=kT (pO key p) (pQ key p);have HS:=O hS0;have HOK:Hid (U=S0→aN key l=⟨p,k+8+m,0⟩):=by
      show U=S0→aN key l=⟨p,k+8+m,0⟩
      intro hus;unfold aN;rw [TK.out,if_neg (by simp),if_neg (by simp only;omega),if_neg (by simp only;omega),if_neg (by simp only;rw [HL.out];omega)];simp only [Int.toNat_natCast];rw [←HU.out,←hp,hS0,if_neg (by rw [hus];simp)]
     have HNO:Hid (¬U=S0→aN key l=lN 18):=by
      show ¬U=S0→aN key l=lN 18
      intro hus;unfold aN;rw [TK.out,if_neg (by simp),if_neg (by simp only;omega),if_neg (by simp only;omega),if_neg (by simp only;rw [HL.out];omega)];simp only [Int.toNat_natCast];rw [←HU.out,←hp,hS0,if_pos (by intro h;exact hus (Int.natCast_inj.1 h))]
     have RQ:Hid (Rd w B (some ⟨b,off+k,none⟩) (((l.drop k).take 8).map bv)):=by
      show Rd w B (some ⟨b,off+k,none⟩) (((l.drop k).take 8).map bv)
      rw [List.map_take,List.map_drop];exact (HR.out.drop k).take 8
     have R1:Hid (Rd w B (some ⟨b,off+(k+8),none⟩) (p.map bv)):=by
      show Rd w B (some ⟨b,off+(k+8),none⟩) (p.map bv)
      rw [hp,List.map_take,List.map_drop];exact (HR.out.drop (k+8)).take m
     have R0:Hid (m=0→∀A1,Rd w B A1 (p.map bv)):=by
      show m=0→∀A1,Rd w B A1 (p.map bv)
      intro h0 A1;have hp0:p=[]:=List.eq_nil_of_length_eq_zero (by rw [HPL.out];exact h0);rw [hp0];exact Rd.nil
     have hx1:(k:Int)+8≤(c:Int):=by omega
     have hkc:k+8+m≤c:=by omega
     clear hU hp hS0 hm1 TK
     by_cases hcc:c=k+8
     ·obtain rfl:m=0:=by omega
      subst hcc
      go_wp2_with (at_builtin;refine ay _ rfl (.tmp 35) (.tmp 43) _ rfl 0 5 i0 _ 1 Tryz.underlying128 hi0 hz0 hz1 hz2 rfl _ 0 [] rfl (Own.made w 5).1 B _ _ _ (p.map bv) rfl ?c1 ?c2 ?c3 (dS p) ?c4 ?c5 (Nat.zero_le _) ?_)
      case c2=>exact (R0.out trivial _).ak (aj _ _) hB
      case c3=>rw [List.length_map,HPL.out]
      case c4=>unfold maxLen;omega
      case c5=>omega
      intro v2 w2 happ;obtain ⟨o2,f2⟩:=(Own.made w 5).aT (by simp) rfl (by rw [List.length_map,HPL.out]) happ;rw [List.nil_append] at o2;obtain ⟨A2,c2,rfl,n2⟩:=o2.form;rw [List.length_map] at o2 ⊢;obtain ⟨O2,F2⟩:=aO o2 ((aj w (.cells #[] 5)).aA f2 fun i hi=>hi);clear happ o2 f2 n2
      go_wp2_with fail
      go_quiet ((first
       |(go_at_call 168;exact aI (tZ _ _ _ _ p _ rfl mxl (O2.out.rd.drewN _)))
       |(go_at_call 177;exact aI (zI _ _ ((l.drop k).take 8) _ _ HQL.out ((RQ.out.ak F2.out hB).drewN _)))))
      rw [HS.out,←HU.out]
      by_cases hus:U=S0
      ·have ht:((S0:Int) != (U:Int))=false:=by rw [hus];simp
       have HUS:=O hus;clear hus
       go_wp2_with fail
       go_ret3
       rw [HOK.out HUS.out];refine ⟨A2,c2,?_,O2.out,F2.out.drewN _⟩
       simp [HPL.out]
      ·have ht:((S0:Int) != (U:Int))=true:=by simp;omega
       have HUS:=O hus;clear hus
       go_wp2_with fail
       go_ret3
       rw [HNO.out HUS.out];exact ⟨none,0,rfl,Own.nil _ _ _,F2.out.drewN _⟩
     ·go_wp2_with (at_builtin;refine ay _ rfl (.tmp 35) (.tmp 43) _ rfl 0 5 i0 _ 1 Tryz.underlying128 hi0 hz0 hz1 hz2 rfl _ 0 [] rfl (Own.made w 5).1 B _ _ _ (p.map bv) rfl ?d1 ?d2 ?d3 (dS p) ?d4 ?d5 (Nat.zero_le _) ?_)
      case d1=>exact fun h=>by cases h
      case d2=>exact R1.out.ak (aj _ _) hB
      case d3=>rw [List.length_map,HPL.out];first|done|omega
      case d4=>unfold maxLen;omega
      case d5=>omega
      intro v2 w2 happ;obtain ⟨o2,f2⟩:=(Own.made w 5).aT (by simp) rfl (by rw [List.length_map,HPL.out]) happ;rw [List.nil_append] at o2;obtain ⟨A2,c2,rfl,n2⟩:=o2.form;rw [List.length_map] at o2 ⊢;obtain ⟨O2,F2⟩:=aO o2 ((aj w (.cells #[] 5)).aA f2 fun i hi=>hi);clear happ o2 f2 n2
      go_wp2_with fail
      go_quiet ((first
       |(go_at_call 168;exact aI (tZ _ _ _ _ p _ rfl mxl (O2.out.rd.drewN _)))
       |(go_at_call 177;exact aI (zI _ _ ((l.drop k).take 8) _ _ HQL.out ((RQ.out.ak F2.out hB).drewN _)))))
      rw [HS.out,←HU.out]
      by_cases hus:U=S0
      ·have ht:((S0:Int) != (U:Int))=false:=by rw [hus];simp
       have HUS:=O hus;clear hus
       go_wp2_with fail
       go_ret3
       rw [HOK.out HUS.out];refine ⟨A2,c2,?_,O2.out,F2.out.drewN _⟩
       simp [HPL.out]
      ·have ht:((S0:Int) != (U:Int))=true:=by simp;omega
       have HUS:=O hus;clear hus
       go_wp2_with fail
       go_ret3
       rw [HNO.out HUS.out];exact ⟨none,0,rfl,Own.nil _ _ _,F2.out.drewN _⟩
 ·have HF:Hid (aN key l=lN (dw l).e):=by
   show aN key l=lN (dw l).e
   unfold aN;rw [if_pos he]
  rw [HF.out];have hz:(dw l).n=0∧(dw l).k=0:=by
   rcases yI 10 [] l with h|h|h
   ·exact absurd h he
   ·unfold dw;rw [h];exact ⟨rfl,rfl⟩
   ·unfold dw;rw [h];exact ⟨rfl,rfl⟩
  have ht:((dw l).e != 0)=true:=by simpa using he
  have ht2:((dw l).e == 0)=false:=by simpa using he
  clear he hz
  go_in
  go_wp2_with fail
  refine (fM _ _ _ l _ _ HL.out mxl HR.out).mono ?_;rintro e w1 ⟨rfl,rfl⟩
  go_wp2_with fail
  go_ret3
  exact (jq.err w (dw l).e)
structure BRow where
 A:Option Addr
 c:Nat
 b:List UInt8
abbrev BRow.v (e:BRow):Value:= .slice e.A e.b.length e.c
structure BRow.ok (w:World) (e:BRow):Prop where
 anp:e.A=none→e.b.length=0
 room:e.b.length≤e.c
 rd:Rd w w.heap.size e.A (e.b.map bv)
theorem BRow.ok.no {w w' :World}{e:BRow}(h:e.ok w)(hf:Fr No w w'):e.ok w' :=⟨h.anp,h.room,(h.rd.ak hf (Nat.le_refl _)).mono hf.size⟩
theorem Own.ak4 {w:World}{F G:Nat→Prop}{e e' :TypeId}{v v' :Value}{xs ys:List Value}(h:Own w F e v xs)(h' :Own w G e' v' ys)(hne:e≠e'):∀g,v.ownBlock=some g→v'.ownBlock≠some g:=by
 intro g hg
 rcases h'.1.2 with ⟨rfl,_⟩|⟨g',cap,cur,rfl,_,hh,_⟩
 ·exact fun h=>by cases h
 ·intro hk
  have hgg:g' =g:=by simpa [Value.ownBlock] using hk
  subst hgg;exact h.fT (g:=g') (t:=e') (cs:=cur) hh hne g' hg rfl
theorem acd:(Tryz.prog.info? 128).map (fun i=>(i.zero,i.size,i.bytes))=some (some (.slice none 0 0),1,24):=by kernel_rfl
structure OwnRows (w0 w:World) (v:Value) (es:List BRow):Prop where
 row:Own w (fun i=>w0.heap.size≤i) 128 v (es.map BRow.v)
 each:∀e∈es,Own w (fun i=>w0.heap.size≤i) 5 e.v (e.b.map bv)
theorem OwnRows.no {w0 w w' :World}{v:Value}{es:List BRow}(h:OwnRows w0 w v es)(hf:Fr No w w'):OwnRows w0 w' v es:=⟨h.row.ak hf,fun e he=>(h.each e he).ak hf⟩
theorem OwnRows.snoc {w0 w w' :World}{v v' :Value}{es:List BRow}{e:BRow}{n:Nat}(h:OwnRows w0 w v es)(hB:w0.heap.size≤w.heap.size)(he:Own w (fun i=>w0.heap.size≤i) 5 e.v (e.b.map bv))(hn:es.length=n)
  (ha:dV w 0 128 v n (es.map BRow.v) [e.v] 1 v' w'):OwnRows w0 w' v' (es++[e])∧Fr (fun i=>w0.heap.size≤i) w w' :=by
 obtain ⟨h1,h2⟩:=h.row.aT hB (by rw [List.length_map];exact hn) rfl ha;have hf:Fr (fun i=>v.ownBlock=some i) w w' :=(Fr.refl _ w).grown ha.2.1 fun k hk=> .inl hk;refine ⟨⟨by rw [List.map_append];exact h1,fun x hx=> ?_⟩,h2⟩;have hx' :Own w (fun i=>w0.heap.size≤i) 5 x.v (x.b.map bv):=by
  rcases List.mem_append.1 hx with hx|hx
  ·exact h.each x hx
  ·rw [List.mem_singleton.1 hx];exact he
 exact hx'.fr' hf fun g hg hv=>hx'.ak4 h.row dcd g hg hv
def am2 (w:World)(t:apg)(e:Ending)(w' :World):Prop:=
 ∃A c es,e= .returned (.tuple #[.slice A t.r.length c,.int .i64 (t.k:Int)])∧es.map (·.b)=t.r∧OwnRows w w' (.slice A es.length c) es∧Fr No w w'
set_option maxHeartbeats 1000000 in
theorem afs (A:Option Addr)(n c:Nat)(key:Int)(l:List UInt8)(w:World)(B:Nat)(hA:A=none→n=0)(hl:l.length=n)(hr:Rd w B A (l.map bv))(hB:B≤w.heap.size)(hsz:n≤1000000000000)(hnc:n≤c):
  Calls Tryz.prog 139 #[.slice A n c,.int .i64 key] w (am2 w (allT key l)):=by
 obtain ⟨i0,hi0,hz0,hz1,hz2⟩:=info_parts acd;obtain ⟨u0,hu0,gz0,gz1,gz2⟩:=info_parts bD;obtain ⟨T,hT⟩:∃T,allT key l=T:=⟨_,rfl⟩;rw [hT];unfold allT at hT;obtain ⟨HA,HL,HR,HT⟩:=fK hA hl hr hT;clear hA hl hr hT
 go_in
 go_wp2_with fail
 go_loopw [6,7] (fun v p wr=>∃(pp f:Nat) (A' :Option Addr) (c' :Nat) (es:List BRow),p= .int .i64 pp∧pp≤n∧n<f+pp∧es.length≤pp∧v= .slice A' es.length c'∧OwnRows w wr (.slice A' es.length c') es∧Fr No w wr∧T=rR key f l pp (es.map (·.b))) (fun _ p _=>n-(intOf p).toNat)
 case atStart=>exact ⟨0,n+1,none,0,[],rfl,Nat.zero_le _,by omega,by simp,rfl,⟨Own.nil _ _ _,fun e he=>by cases he⟩,Fr.refl _ _,by rw [←HT.out,HL.out];rfl⟩
 case round=>
  obtain ⟨pp,f,A',c',es,rfl,hpp,hf,hel,rfl,ho,hfr,hg⟩:=hrel;have hs1:w.heap.size≤wr.heap.size:=hfr.size;clear HT
  by_cases hlt:pp<n
  ·obtain ⟨A2,hs2,hn2,hr2⟩:=jw (P:=Tryz.prog) 128 5 Tryz.underlying128 u0 hu0 gz1 A n c pp hpp HA.out
   have hr3:=hr2 wr B (l.map bv) (by rw [List.length_map,HL.out];exact hnc) (HR.out.ak hfr hB);rw [←List.map_drop] at hr3;have hC2:=xE A2 (n-pp) (c-pp) key (l.drop pp) wr B hn2 (by rw [List.length_drop];exact congrArg (·-pp) HL.out) hr3 (Nat.le_trans hB hs1) oy oy;obtain ⟨f,rfl⟩:∃f',f=f' +1:=⟨f-1,by omega⟩;rw [rR,if_pos (by rw [HL.out];exact hlt)] at hg;have hk2:=oV key (l.drop pp);rw [List.length_drop,HL.out] at hk2;generalize aN key (l.drop pp)=t at*;obtain ⟨tp,tk,te⟩:=t;simp only at hk2 hg;clear hr2 hr3 hn2;have HC2:=O hC2;clear hC2
   by_cases h5:te=0
   ·rw [if_pos h5] at hg
    obtain ⟨h6,h7⟩:=hk2 h5;subst h5;clear hk2;obtain ⟨HG,HO,HFR⟩:=bP hg ho hfr;clear hg ho hfr
    go_wp2_with fail
    refine HC2.out.mono ?_;rintro e w2 ⟨A3,c3,rfl,o3,f3⟩;simp only at o3;have hs3:=f3.size;obtain ⟨Q3,F3⟩:=aO (HO.out.no f3) (HFR.out.ah f3);have o3' :=o3.mono (G:=fun i=>w.heap.size≤i) fun i hi=>Nat.le_trans hs1 hi;have O3' :=O o3';clear o3';clear o3 f3
    go_wp2_with (at_builtin;refine ay _ rfl (.tmp 26) (.tmp 28) _ rfl 0 128 i0 _ 24 Tryz.underlying143 hi0 hz0 hz1 hz2 rfl _ es.length (es.map BRow.v) rfl ?c0 (w2.heap.size+1) (some ⟨w2.heap.size,0,none⟩) 1 1 [(⟨A3,c3,tp⟩:BRow).v] rfl (fun h=>by cases h) ?c1 rfl ?c2 ?c4 ?c5 (Nat.zero_le _) ?_)
    case c0=>exact (Q3.out.no (aj w2 _)).row.own (by rw [List.length_map])
    case c1=>exact Rd.new w2 [_] 128 rfl
    case c2=>intro u hu;rw [List.mem_singleton.1 hu];rfl
    case c4=>unfold maxLen;omega
    case c5=>omega
    intro v4 w4 happ;obtain ⟨o4,f4⟩:=(Q3.out.no (aj w2 (.cells #[.slice A3 tp.length c3] 128))).snoc (e:=⟨A3,c3,tp⟩) (by simp;omega) (O3'.out.ak (aj w2 _)) rfl happ;obtain ⟨A4,c4,hv4,n4⟩:=o4.row.form;subst hv4;rw [List.length_map] at o4 ⊢;have e4:(es++[⟨A3,c3,tp⟩]:List BRow).length=es.length+1:=by simp
    obtain ⟨O4,F4⟩:=aO (o4) ((F3.out.alloc (.cells #[.slice A3 tp.length c3] 128)).aA f4 fun i hi=>hi);clear happ o4 f4 n4 hs2 HC2
    go_wp2_with fail
    go_roundw
    case rel=>exact ⟨pp+tk,f,A4,c4,es++[⟨A3,c3,tp⟩],by go_num,by omega,by omega,by simp;omega,rfl,O4.out,F4.out,by rw [HG.out];simp⟩
    case measure=>simp [intOf];omega
   ·rw [if_neg h5] at hg
    subst hg;have b1:(te == 0)=false:=by simp [h5]
    have b1' :(te != 0)=true:=by simp [h5]
    clear h5 hk2;obtain ⟨HFR,HO⟩:=aO hfr ho;clear hfr ho
    go_wp2_with fail
    refine HC2.out.mono ?_;rintro e w2 ⟨A3,c3,rfl,o3,f3⟩;obtain ⟨Q3,F3⟩:=aO (HO.out.no f3) (HFR.out.ah f3);clear o3 f3
    go_wp2_with fail
    go_ret2
    exact ⟨A',c',es,by simp,rfl,Q3.out,F3.out⟩
  ·have hge:T=⟨es.map (·.b),pp⟩:=by
    rw [hg]
    rcases f with _|f
    ·rfl
    ·rw [rR,if_neg (by rw [HL.out];exact hlt)]
   subst hge;clear hg;obtain ⟨HFR,HO⟩:=aO hfr ho;clear hfr ho
   go_wp2_with fail
   go_ret2
   exact ⟨A',c',es,by simp,rfl,HO.out,HFR.out⟩
end Go.Proofs.YtjnfmfmglehmbaaGreat
