/-
  The plain law of the wire's integers: which bytes an integer takes, what is read back from bytes. No program in sight.
-/
namespace Go.Proofs.YtjnfmfmglehmbaaGreat
set_option linter.unusedVariables false
set_option maxRecDepth 100000
set_option maxHeartbeats 4000000
def aV (n:Int):Nat:=if 0≤n then 2*n.toNat else 2*(-(n+1)).toNat+1
def qx (u:Nat):Int:=if u % 2=0 then (u / 2:Nat) else -((u / 2:Nat):Int)-1
theorem aai (n:Int):qx (aV n)=n:=by
 unfold qx aV
 split<;>split<;>omega
theorem nZ (u:Nat):aV (qx u)=u:=by
 unfold qx aV
 split<;>split<;>omega
theorem bq (n:Int)(h1: -9223372036854775808≤n)(h2:n≤9223372036854775807):aV n<18446744073709551616:=by
 unfold aV
 split<;>omega
def bX (u:Nat):List UInt8:=if h:u<128 then [UInt8.ofNat u] else UInt8.ofNat (u % 128+128) :: bX (u / 128)
termination_by u
decreasing_by omega
theorem nV (u:Nat)(h:u<128):bX u=[UInt8.ofNat u]:=by rw [bX,dif_pos h]
theorem nW (u:Nat)(h:¬u<128):bX u=UInt8.ofNat (u % 128+128) :: bX (u / 128):=by rw [bX,dif_neg h]
theorem agn (u:Nat):1≤(bX u).length:=by
 rw [bX]
 split<;>simp
theorem agp:∀(k u:Nat),u<128 ^ k→0<k→(bX u).length≤k:=by
 intro k
 induction k with
 |zero=>intro u _ h;omega
 |succ k ih=>
  intro u hu _
  by_cases h:u<128
  ·rw [nV u h];simp
  ·rw [nW u h,List.length_cons]
   have hk:0<k:=by
    rcases Nat.eq_zero_or_pos k with rfl|hk
    ·simp at hu;omega
    ·exact hk
   have:=ih (u / 128) (by rw [Nat.pow_succ] at hu;exact Nat.div_lt_of_lt_mul (by rw [Nat.mul_comm];exact hu)) hk
   omega
theorem aP (u:Nat)(h:u<18446744073709551616):(bX u).length≤10:=agp 10 u (by omega) (by omega)
def jR:List UInt8→Nat
 |[]=>0
 |x :: l=>x.toNat % 128+128*jR l
theorem gD (l m:List UInt8):jR (l++m)=jR l+128 ^ l.length*jR m:=by
 induction l with
 |nil=>simp [jR]
 |cons x l ih=>
  simp only [List.cons_append,jR,ih,List.length_cons,Nat.pow_succ];rw [Nat.mul_add,Nat.mul_comm (128 ^ l.length) 128,Nat.mul_assoc]
  omega
theorem abj (l:List UInt8):jR l<128 ^ l.length:=by
 induction l with
 |nil=>simp [jR]
 |cons x l ih=>
  simp only [jR,List.length_cons,Nat.pow_succ]
  omega
structure Tak where
 n:Int
 k:Nat
 e:Int
deriving DecidableEq
def Tak.short:Tak:=⟨0,0,17⟩
def Tak.corrupt:Tak:=⟨0,0,18⟩
def kJ:Nat→List UInt8→List UInt8→Tak
 |0,_,_=> .corrupt
 |_+1,_,[]=> .short
 |f+1,p,x :: l=>
  if x.toNat<128 then
   if (0<p.length∧x.toNat=0)∨(p.length=9∧1<x.toNat) then .corrupt
   else ⟨qx (jR (p++[x])),p.length+1,0⟩
  else kJ f (p++[x]) l
def dw (l:List UInt8):Tak:=kJ 10 [] l
theorem afc:∀(u f:Nat) (p:List UInt8) (more:List UInt8),p.length+f=10→(bX u).length≤f→(0<p.length→0<u)→u*128 ^ p.length<18446744073709551616→
  kJ f p (bX u++more)=⟨qx (jR p+128 ^ p.length*u),p.length+(bX u).length,0⟩:=by
 intro u
 induction u using Nat.strongRecOn with
 |ind u ih=>
  intro f p more hf hl hp hlt
  by_cases h:u<128
  ·rw [nV u h] at hl ⊢
   simp only [List.length_singleton] at hl;obtain ⟨f,rfl⟩:∃f',f=f' +1:=⟨f-1,by omega⟩;simp only [List.cons_append,List.nil_append,kJ,UInt8.toNat_ofNat',List.length_singleton];have hm:u % 2 ^ 8=u:=by omega
   rw [hm,if_pos h,if_neg,gD]
   ·simp only [jR,UInt8.toNat_ofNat',hm]
    rw [show u % 128+128*0=u from by omega]
   ·rintro (⟨h1,h2⟩|⟨h1,h2⟩)
    ·have:=hp h1;omega
    ·rw [h1] at hlt;omega
  ·rw [nW u h] at hl ⊢
   simp only [List.length_cons] at hl;obtain ⟨f,rfl⟩:∃f',f=f' +1:=⟨f-1,by omega⟩;simp only [List.cons_append,kJ,UInt8.toNat_ofNat',List.length_cons];have hm:(u % 128+128) % 2 ^ 8=u % 128+128:=by omega
   rw [hm,if_neg (by omega)];have hlt' :u / 128*128 ^ (p.length+1)<18446744073709551616:=by
    rw [Nat.pow_succ];refine Nat.lt_of_le_of_lt ?_ hlt;rw [Nat.mul_comm (128 ^ p.length) 128,←Nat.mul_assoc];exact Nat.mul_le_mul_right _ (by omega)
   rw [ih (u / 128) (by omega) f (p++[UInt8.ofNat (u % 128+128)]) more (by simp;omega) (by omega) (fun _=>by omega) (by simpa using hlt')];simp only [List.length_append,List.length_singleton,gD,jR,UInt8.toNat_ofNat',hm]
   congr 1
   ·congr 1
    rw [Nat.pow_succ,Nat.mul_assoc];rw [show (u % 128+128) % 128+128*0=u % 128 from by omega,Nat.add_assoc,←Nat.mul_add]
    congr 1
    congr 1
    omega
   ·omega
theorem oW (n:Int)(h1: -9223372036854775808≤n)(h2:n≤9223372036854775807)(more:List UInt8):
  dw (bX (aV n)++more)=⟨n,(bX (aV n)).length,0⟩:=by
 have hc:=bq n h1 h2;unfold dw;rw [afc (aV n) 10 [] more rfl (aP _ hc) (fun h=>by simp at h) (by simpa using hc)]
 simp [jR,aai]
theorem ah2:∀(f:Nat) (p l:List UInt8),p.length+f=10→(kJ f p l).e=0→
  ∃u,(0<p.length→0<u)∧u*128 ^ p.length<18446744073709551616∧(kJ f p l).k=p.length+(bX u).length∧(bX u).length≤l.length∧l.take (bX u).length=bX u∧(kJ f p l).n=qx (jR p+128 ^ p.length*u):=by
 intro f
 induction f with
 |zero=>intro p l _ h;simp [kJ,Tak.corrupt] at h
 |succ f ih=>
  intro p l hf h
  rcases l with _|⟨x,l⟩
  ·simp [kJ,Tak.short] at h
  ·by_cases hx:x.toNat<128
   ·simp only [kJ,if_pos hx] at h ⊢
    by_cases hb:(0<p.length∧x.toNat=0)∨(p.length=9∧1<x.toNat)
    ·rw [if_pos hb] at h;simp [Tak.corrupt] at h
    ·rw [if_neg hb] at h ⊢
     have he:bX x.toNat=[x]:=by rw [nV _ hx];simp
     refine ⟨x.toNat,fun hp=> ?_,?_,by rw [he];rfl,by rw [he];simp,by rw [he];simp,?_⟩
     ·rcases Nat.eq_zero_or_pos x.toNat with h0|h0
      ·exact absurd (.inl ⟨hp,h0⟩) hb
      ·exact h0
     ·by_cases h9:p.length=9
      ·have:x.toNat≤1:=by
        rcases Nat.lt_or_ge 1 x.toNat with h1|h1
        ·exact absurd (.inr ⟨h9,h1⟩) hb
        ·exact h1
       rw [h9];have:x.toNat*128 ^ 9≤1*128 ^ 9:=Nat.mul_le_mul_right _ this
       omega
      ·have hle:128 ^ p.length≤128 ^ 8:=Nat.pow_le_pow_right (by omega) (by omega)
       have:x.toNat*128 ^ p.length≤127*128 ^ 8:=Nat.mul_le_mul (by omega) hle
       omega
     ·simp only [gD,jR]
      rw [show x.toNat % 128+128*0=x.toNat from by omega]
   ·simp only [kJ,if_neg hx] at h ⊢
    obtain ⟨u,h1,h2,h3,h4,h5,h6⟩:=ih (p++[x]) l (by simp;omega) h;simp only [List.length_append,List.length_singleton] at h1 h2 h3 h6;have hu:0<u:=h1 (by omega);have hx' :x.toNat<256:=x.toNat_lt;have hw:¬(x.toNat % 128+128*u)<128:=by omega
    have he:bX (x.toNat % 128+128*u)=x :: bX u:=by
     rw [nW _ hw];rw [show (x.toNat % 128+128*u) % 128+128=x.toNat from by omega,show (x.toNat % 128+128*u) / 128=u from by omega]
     simp
    refine ⟨x.toNat % 128+128*u,fun _=>by omega,?_,by rw [he,h3,List.length_cons];omega,by rw [he];simp;omega,by rw [he];simpa using h5,?_⟩
    ·rw [Nat.pow_succ] at h2
     by_cases h9:p.length=9
     ·rw [h9] at h2;omega
     ·have hle:128 ^ (p.length+1)*128 ^ (9-(p.length+1))=128 ^ 9:=by rw [←Nat.pow_add];congr 1;omega
      have hp1:0<128 ^ (9-(p.length+1)):=Nat.pow_pos (by omega);have e1:u*(128 ^ p.length*128)=(128*u)*128 ^ p.length:=by
       rw [Nat.mul_comm (128 ^ p.length) 128,←Nat.mul_assoc,Nat.mul_comm u 128]
      rw [e1] at h2;have h128:18446744073709551616=2*128 ^ 9:=by decide
      have hdiv:128 ^ 9=128 ^ p.length*(128*128 ^ (9-(p.length+1))):=by
       rw [←Nat.mul_assoc,←Nat.pow_succ];exact hle.symm
      generalize 128 ^ (9-(p.length+1))=q at*;generalize 128 ^ p.length=r at*;have h3' :128*u*r<(2*(128*q))*r:=by
       rw [show 2*(128*q)*r=2*(r*(128*q)) from by rw [Nat.mul_assoc,Nat.mul_comm (128*q) r],←hdiv,←h128];exact h2
      have h4' :128*u<2*(128*q):=Nat.lt_of_mul_lt_mul_right h3';have h5' :x.toNat % 128+128*u<2*(128*q):=by omega
      have hr:0<r:=by
       rcases Nat.eq_zero_or_pos r with rfl|hr
       ·simp at hdiv
       ·exact hr
      calc (x.toNat % 128+128*u)*r<(2*(128*q))*r:=Nat.mul_lt_mul_of_pos_right h5' hr
       _=18446744073709551616:=by rw [h128,hdiv,Nat.mul_comm r,Nat.mul_assoc]
    ·rw [h6]
     congr 1
     rw [gD,Nat.pow_succ];simp only [jR];generalize 128 ^ p.length=r;rw [Nat.mul_add r (x.toNat % 128) (128*u),Nat.mul_assoc,show x.toNat % 128+128*0=x.toNat % 128 from by omega]
     omega
theorem tO (l:List UInt8)(h:(dw l).e=0):
  ∃n:Int,-9223372036854775808≤n∧n≤9223372036854775807∧(dw l).n=n∧(dw l).k=(bX (aV n)).length∧(bX (aV n)).length≤l.length∧l.take (bX (aV n)).length=bX (aV n):=by
 obtain ⟨u,_,h2,h3,h4,h5,h6⟩:=ah2 10 [] l rfl h;simp only [List.length_nil,Nat.pow_zero,Nat.mul_one,jR,Nat.zero_add,Nat.one_mul] at h2 h3 h6;refine ⟨qx u,?_,?_,h6,by rw [nZ];exact h3,by rw [nZ];exact h4,by rw [nZ];exact h5⟩
 ·unfold qx;split<;>omega
 ·unfold qx;split<;>omega
theorem yI:∀(f:Nat) (p l:List UInt8),(kJ f p l).e=0∨kJ f p l= .short∨kJ f p l= .corrupt:=by
 intro f
 induction f with
 |zero=>intro p l;exact .inr (.inr rfl)
 |succ f ih=>
  intro p l
  rcases l with _|⟨x,l⟩
  ·exact .inr (.inl rfl)
  ·simp only [kJ]
   split
   ·split
    ·exact .inr (.inr rfl)
    ·exact .inl rfl
   ·exact ih _ _
structure En where
 kind:Int
 tick:Int
 aS:Int
 cell:Int
 other:Int
 epoch:Int
 from_:Int
 bA:Int
 n:Int
deriving DecidableEq
def En.l (e:En):List Int:=[e.kind,e.tick,e.aS,e.cell,e.other,e.epoch,e.from_,e.bA,e.n]
theorem En.anu (e:En):e.l.length=9:=rfl
def En.of (l:List Int):En:=⟨l.getD 0 0,l.getD 1 0,l.getD 2 0,l.getD 3 0,l.getD 4 0,l.getD 5 0,l.getD 6 0,l.getD 7 0,l.getD 8 0⟩
theorem En.aq6 (e:En):En.of e.l=e:=by cases e;rfl
def En.ok (e:En):Prop:=∀x∈e.l,-9223372036854775808≤x∧x≤9223372036854775807
instance (e:En):Decidable e.ok:=by unfold En.ok;infer_instance
def inB (a b n:Int):Bool:=decide (a≤n) && decide (n≤b)
structure Sp where
 lo:Int
 hi:Int
def Sp.has (s:Sp)(n:Int):Bool:=inB s.lo s.hi n
structure Fm where
 aS:Sp
 cell:Sp
 other:Sp
 epoch:Sp
 ticks:Sp
 n:Sp
abbrev dJ:Sp:=⟨-1,-1⟩
abbrev bV:Sp:=⟨0,0⟩
def mZ (k nt nc nr nv:Int):Fm:=
 if k=1 then ⟨⟨0,nt-1⟩,⟨0,nc-1⟩,⟨-1,nc-1⟩,bV,bV,bV⟩
 else if k=2 then ⟨⟨0,nt-1⟩,⟨0,nc-1⟩,dJ,⟨1,1048576⟩,⟨0,1073741824⟩,⟨0,nv-1⟩⟩
 else if k=3 then ⟨⟨0,nt-1⟩,dJ,dJ,⟨1,1048576⟩,bV,bV⟩
 else if k=4 then ⟨⟨0,nt-1⟩,⟨-1,nc-1⟩,dJ,bV,bV,bV⟩
 else if k=5∨k=6 then ⟨⟨0,nt-1⟩,⟨0,nc-1⟩,dJ,bV,bV,bV⟩
 else if k=7 then ⟨⟨0,nt-1⟩,dJ,dJ,bV,bV,bV⟩
 else if k=8 then ⟨⟨0,nt-1⟩,dJ,dJ,bV,bV,⟨0,1⟩⟩
 else if k=9 then ⟨dJ,⟨0,nc-1⟩,dJ,bV,bV,⟨1,3⟩⟩
 else if k=10∨k=11 then ⟨dJ,⟨0,nc-1⟩,dJ,bV,bV,⟨0,nv-1⟩⟩
 else if k=12 then ⟨dJ,dJ,dJ,bV,bV,⟨0,nv-1⟩⟩
 else if k=13 then ⟨dJ,dJ,⟨0,nr-1⟩,bV,bV,⟨0,1⟩⟩
 else if k=14∨k=15 then ⟨dJ,dJ,dJ,bV,bV,bV⟩
 else ⟨dJ,dJ,dJ,bV,bV,⟨0,1073741824⟩⟩
def wz (e:En)(nt nc nr nv:Int):Bool:=
 inB 1 16 e.kind && !(decide (e.kind=1) && decide (e.other=e.cell)) && inB 0 1073741824 e.tick &&
 (mZ e.kind nt nc nr nv).aS.has e.aS && (mZ e.kind nt nc nr nv).cell.has e.cell && (mZ e.kind nt nc nr nv).other.has e.other &&
 (mZ e.kind nt nc nr nv).epoch.has e.epoch && (mZ e.kind nt nc nr nv).ticks.has e.from_ && (mZ e.kind nt nc nr nv).ticks.has e.bA && (mZ e.kind nt nc nr nv).n.has e.n
def dW (e:En):Bool:=wz e 32 16 4 30
def nH (k:Int):List UInt8:=
 if k=1 then [116,99,111] else if k=2 then [116,99,101,119,118] else if k=3 then [116,101] else if k=4 then [116,67] else if k=5 then [116,99] else if k=6 then [116,99]
 else if k=7 then [116] else if k=8 then [116,98] else if k=9 then [99,109] else if k=10 then [99,118] else if k=11 then [99,118] else if k=12 then [118] else if k=13 then [114,98]
 else if k=14 then [] else if k=15 then [] else if k=16 then [110] else [63]
def kW (k:Int)(c:UInt8):Bool:=(nH k).contains c
def jV (e:En)(nt nc nr:Int):Bool:=
 if kW e.kind 116 != (e.aS != -1) || kW e.kind 116 && !inB 0 (nt-1) e.aS then false
 else if kW e.kind 99 && !inB 0 (nc-1) e.cell || kW e.kind 67 && !inB (-1) (nc-1) e.cell || !kW e.kind 99 && !kW e.kind 67 && e.cell != -1 then false
 else if kW e.kind 111 && (!inB (-1) (nc-1) e.other || e.other == e.cell) || kW e.kind 114 && !inB 0 (nr-1) e.other || !kW e.kind 111 && !kW e.kind 114 && e.other != -1 then false
 else true
def mQ (e:En)(nv:Int):Bool:=
 if kW e.kind 101 && !inB 1 1048576 e.epoch || !kW e.kind 101 && e.epoch != 0 then false
 else if kW e.kind 119 && (!inB 0 1073741824 e.from_ || !inB 0 1073741824 e.bA) || !kW e.kind 119 && (e.from_ != 0 || e.bA != 0) then false
 else if kW e.kind 118 then inB 0 (nv-1) e.n
 else if kW e.kind 98 then inB 0 1 e.n
 else if kW e.kind 109 then inB 1 3 e.n
 else if kW e.kind 110 then inB 0 1073741824 e.n
 else e.n == 0
def sK (e:En)(nt nc nr nv:Int):Bool:=inB 1 16 e.kind && inB 0 1073741824 e.tick && jV e nt nc nr && mQ e nv
theorem agj (e:En)(nt nc nr nv:Int):wz e nt nc nr nv=sK e nt nc nr nv:=by
 obtain ⟨k,tick,te,ce,ot,ep,fr,un,n⟩:=e
 by_cases hk:1≤k∧k≤16
 ·obtain ⟨h1,h2⟩:=hk
  have hcases:k=1∨k=2∨k=3∨k=4∨k=5∨k=6∨k=7∨k=8∨k=9∨k=10∨k=11∨k=12∨k=13∨k=14∨k=15∨k=16:=by omega
  clear h1 h2
  rcases hcases with rfl|rfl|rfl|rfl|rfl|rfl|rfl|rfl|rfl|rfl|rfl|rfl|rfl|rfl|rfl|rfl
  all_goals
   simp only [wz,sK,jV,mQ,mZ,kW,nH,Sp.has,inB,dJ,bV];rw [Bool.eq_iff_iff]
   simp
   omega
 ·simp only [wz,sK]
  have:inB 1 16 k=false:=by unfold inB;simp;omega
  rw [this]
  rfl
def dn (l:List Int):List UInt8:=l.flatMap fun n=>bX (aV n)
theorem bM (l:List Int)(n:Int):dn (l++[n])=dn l++bX (aV n):=by simp [dn]
theorem iM (l:List Int)(h:∀n∈l,-9223372036854775808≤n∧n≤9223372036854775807):(dn l).length≤10*l.length:=by
 induction l with
 |nil=>simp [dn]
 |cons n l ih=>
  have h1:=aP _ (bq n (h n (by simp)).1 (h n (by simp)).2);have h2:=ih fun m hm=>h m (by simp [hm]);simp only [dn,List.flatMap_cons,List.length_append,List.length_cons] at*
  omega
theorem oz (l:List UInt8)(h:(dw l).e=0):(dw l).k≤l.length:=by
 obtain ⟨n,_,_,_,h4,h5,_⟩:=tO l h
 omega
structure amo where
 q:List Int
 k:Nat
 e:Int
def lF:Nat→List UInt8→Nat→List Int→amo
 |0,_,p,acc=>⟨acc,p,0⟩
 |f+1,l,p,acc=>if (dw (l.drop p)).e=0 then lF f l (p+(dw (l.drop p)).k) (acc++[(dw (l.drop p)).n]) else ⟨[],0,(dw (l.drop p)).e⟩
theorem aao:∀(q:List Int) (p more:List UInt8) (acc:List Int),(∀n∈q,-9223372036854775808≤n∧n≤9223372036854775807)→
  lF q.length (p++(dn q++more)) p.length acc=⟨acc++q,p.length+(dn q).length,0⟩:=by
 intro q
 induction q with
 |nil=>intro p more acc _;simp [lF,dn]
 |cons n q ih=>
  intro p more acc hb;have e1:dn (n :: q)=bX (aV n)++dn q:=by simp [dn]
  simp only [List.length_cons,lF];rw [List.drop_left' rfl,e1,List.append_assoc,oW n (hb n (by simp)).1 (hb n (by simp)).2];simp only [if_true];have:=ih (p++bX (aV n)) more (acc++[n]) (fun m hm=>hb m (by simp [hm]));rw [List.length_append,List.append_assoc] at this;rw [this];simp only [List.append_assoc,List.cons_append,List.nil_append,List.length_append]
  congr 1
  omega
end Go.Proofs.YtjnfmfmglehmbaaGreat
