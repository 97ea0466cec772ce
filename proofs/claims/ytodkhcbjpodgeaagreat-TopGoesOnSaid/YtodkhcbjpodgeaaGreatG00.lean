/-
  The plain law of the wire's integers: which bytes an integer takes, what is read back from bytes. No program in sight.
-/
namespace Go.Proofs.YtodkhcbjpodgeaaGreat
set_option linter.unusedVariables false
set_option maxRecDepth 100000
set_option maxHeartbeats 4000000
def bW (n:Int):Nat:=if 0≤n then 2*n.toNat else 2*(-(n+1)).toNat+1
def aor (u:Nat):Int:=if u % 2=0 then (u / 2:Nat) else -((u / 2:Nat):Int)-1
theorem yJ (n:Int):aor (bW n)=n:=by
 unfold aor bW
 split<;>split<;>omega
theorem dG (n:Int)(h1: -9223372036854775808≤n)(h2:n≤9223372036854775807):bW n<18446744073709551616:=by
 unfold bW
 split<;>omega
def fM (u:Nat):List UInt8:=if h:u<128 then [UInt8.ofNat u] else UInt8.ofNat (u % 128+128) :: fM (u / 128)
termination_by u
decreasing_by omega
theorem uY (u:Nat)(h:u<128):fM u=[UInt8.ofNat u]:=by rw [fM,dif_pos h]
theorem uZ (u:Nat)(h:¬u<128):fM u=UInt8.ofNat (u % 128+128) :: fM (u / 128):=by rw [fM,dif_neg h]
theorem afz (u:Nat):1≤(fM u).length:=by
 rw [fM]
 split<;>simp
theorem af0:∀(k u:Nat),u<128 ^ k→0<k→(fM u).length≤k:=by
 intro k
 induction k with
 |zero=>intro u _ h;omega
 |succ k ih=>
  intro u hu _
  by_cases h:u<128
  ·rw [uY u h];simp
  ·rw [uZ u h,List.length_cons]
   have hk:0<k:=by
    rcases Nat.eq_zero_or_pos k with rfl|hk
    ·simp at hu;omega
    ·exact hk
   have:=ih (u / 128) (by rw [Nat.pow_succ] at hu;exact Nat.div_lt_of_lt_mul (by rw [Nat.mul_comm];exact hu)) hk
   omega
theorem bD (u:Nat)(h:u<18446744073709551616):(fM u).length≤10:=af0 10 u (by omega) (by omega)
def zU:List UInt8→Nat
 |[]=>0
 |x :: l=>x.toNat % 128+128*zU l
theorem lW (l m:List UInt8):zU (l++m)=zU l+128 ^ l.length*zU m:=by
 induction l with
 |nil=>simp [zU]
 |cons x l ih=>
  simp only [List.cons_append,zU,ih,List.length_cons,Nat.pow_succ];rw [Nat.mul_add,Nat.mul_comm (128 ^ l.length) 128,Nat.mul_assoc]
  omega
structure Tak where
 n:Int
 k:Nat
 e:Int
deriving DecidableEq
def Tak.short:Tak:=⟨0,0,17⟩
def Tak.corrupt:Tak:=⟨0,0,18⟩
def alb:Nat→List UInt8→List UInt8→Tak
 |0,_,_=> .corrupt
 |_+1,_,[]=> .short
 |f+1,p,x :: l=>
  if x.toNat<128 then
   if (0<p.length∧x.toNat=0)∨(p.length=9∧1<x.toNat) then .corrupt
   else ⟨aor (zU (p++[x])),p.length+1,0⟩
  else alb f (p++[x]) l
def ad5 (l:List UInt8):Tak:=alb 10 [] l
theorem ad6:∀(u f:Nat) (p:List UInt8) (more:List UInt8),p.length+f=10→(fM u).length≤f→(0<p.length→0<u)→u*128 ^ p.length<18446744073709551616→
  alb f p (fM u++more)=⟨aor (zU p+128 ^ p.length*u),p.length+(fM u).length,0⟩:=by
 intro u
 induction u using Nat.strongRecOn with
 |ind u ih=>
  intro f p more hf hl hp hlt
  by_cases h:u<128
  ·rw [uY u h] at hl ⊢
   simp only [List.length_singleton] at hl;obtain ⟨f,rfl⟩:∃f',f=f' +1:=⟨f-1,by omega⟩;simp only [List.cons_append,List.nil_append,alb,UInt8.toNat_ofNat',List.length_singleton];have hm:u % 2 ^ 8=u:=by omega
   rw [hm,if_pos h,if_neg,lW]
   ·simp only [zU,UInt8.toNat_ofNat',hm]
    rw [show u % 128+128*0=u from by omega]
   ·rintro (⟨h1,h2⟩|⟨h1,h2⟩)
    ·have:=hp h1;omega
    ·rw [h1] at hlt;omega
  ·rw [uZ u h] at hl ⊢
   simp only [List.length_cons] at hl;obtain ⟨f,rfl⟩:∃f',f=f' +1:=⟨f-1,by omega⟩;simp only [List.cons_append,alb,UInt8.toNat_ofNat',List.length_cons];have hm:(u % 128+128) % 2 ^ 8=u % 128+128:=by omega
   rw [hm,if_neg (by omega)];have hlt' :u / 128*128 ^ (p.length+1)<18446744073709551616:=by
    rw [Nat.pow_succ];refine Nat.lt_of_le_of_lt ?_ hlt;rw [Nat.mul_comm (128 ^ p.length) 128,←Nat.mul_assoc];exact Nat.mul_le_mul_right _ (by omega)
   rw [ih (u / 128) (by omega) f (p++[UInt8.ofNat (u % 128+128)]) more (by simp;omega) (by omega) (fun _=>by omega) (by simpa using hlt')];simp only [List.length_append,List.length_singleton,lW,zU,UInt8.toNat_ofNat',hm]
   congr 1
   ·congr 1
    rw [Nat.pow_succ,Nat.mul_assoc];rw [show (u % 128+128) % 128+128*0=u % 128 from by omega,Nat.add_assoc,←Nat.mul_add]
    congr 1
    congr 1
    omega
   ·omega
theorem vU (n:Int)(h1: -9223372036854775808≤n)(h2:n≤9223372036854775807)(more:List UInt8):
  ad5 (fM (bW n)++more)=⟨n,(fM (bW n)).length,0⟩:=by
 have hc:=dG n h1 h2;unfold ad5;rw [ad6 (bW n) 10 [] more rfl (bD _ hc) (fun h=>by simp at h) (by simpa using hc)]
 simp [zU,yJ]
structure En where
 kind:Int
 tick:Int
 bF:Int
 cell:Int
 other:Int
 epoch:Int
 from_:Int
 fE:Int
 n:Int
deriving DecidableEq
def En.l (e:En):List Int:=[e.kind,e.tick,e.bF,e.cell,e.other,e.epoch,e.from_,e.fE,e.n]
theorem En.ap2 (e:En):e.l.length=9:=rfl
def En.of (l:List Int):En:=⟨l.getD 0 0,l.getD 1 0,l.getD 2 0,l.getD 3 0,l.getD 4 0,l.getD 5 0,l.getD 6 0,l.getD 7 0,l.getD 8 0⟩
theorem En.av1 (e:En):En.of e.l=e:=by cases e;rfl
def En.ok (e:En):Prop:=∀x∈e.l,-9223372036854775808≤x∧x≤9223372036854775807
instance (e:En):Decidable e.ok:=by unfold En.ok;infer_instance
def inB (a b n:Int):Bool:=decide (a≤n) && decide (n≤b)
structure Sp where
 lo:Int
 hi:Int
def Sp.has (s:Sp)(n:Int):Bool:=inB s.lo s.hi n
structure Fm where
 bF:Sp
 cell:Sp
 other:Sp
 epoch:Sp
 ticks:Sp
 n:Sp
abbrev dw:Sp:=⟨-1,-1⟩
abbrev aZ:Sp:=⟨0,0⟩
def kR (k nt nc nr nv:Int):Fm:=
 if k=1 then ⟨⟨0,nt-1⟩,⟨0,nc-1⟩,⟨-1,nc-1⟩,aZ,aZ,aZ⟩
 else if k=2 then ⟨⟨0,nt-1⟩,⟨0,nc-1⟩,dw,⟨1,1048576⟩,⟨0,1073741824⟩,⟨0,nv-1⟩⟩
 else if k=3 then ⟨⟨0,nt-1⟩,dw,dw,⟨1,1048576⟩,aZ,aZ⟩
 else if k=4 then ⟨⟨0,nt-1⟩,⟨-1,nc-1⟩,dw,aZ,aZ,aZ⟩
 else if k=5∨k=6 then ⟨⟨0,nt-1⟩,⟨0,nc-1⟩,dw,aZ,aZ,aZ⟩
 else if k=7 then ⟨⟨0,nt-1⟩,dw,dw,aZ,aZ,aZ⟩
 else if k=8 then ⟨⟨0,nt-1⟩,dw,dw,aZ,aZ,⟨0,1⟩⟩
 else if k=9 then ⟨dw,⟨0,nc-1⟩,dw,aZ,aZ,⟨1,3⟩⟩
 else if k=10∨k=11 then ⟨dw,⟨0,nc-1⟩,dw,aZ,aZ,⟨0,nv-1⟩⟩
 else if k=12 then ⟨dw,dw,dw,aZ,aZ,⟨0,nv-1⟩⟩
 else if k=13 then ⟨dw,dw,⟨0,nr-1⟩,aZ,aZ,⟨0,1⟩⟩
 else if k=14∨k=15 then ⟨dw,dw,dw,aZ,aZ,aZ⟩
 else ⟨dw,dw,dw,aZ,aZ,⟨0,1073741824⟩⟩
def uX (e:En)(nt nc nr nv:Int):Bool:=
 inB 1 16 e.kind && !(decide (e.kind=1) && decide (e.other=e.cell)) && inB 0 1073741824 e.tick &&
 (kR e.kind nt nc nr nv).bF.has e.bF && (kR e.kind nt nc nr nv).cell.has e.cell && (kR e.kind nt nc nr nv).other.has e.other &&
 (kR e.kind nt nc nr nv).epoch.has e.epoch && (kR e.kind nt nc nr nv).ticks.has e.from_ && (kR e.kind nt nc nr nv).ticks.has e.fE && (kR e.kind nt nc nr nv).n.has e.n
def fF (e:En):Bool:=uX e 32 16 4 30
def dA (l:List Int):List UInt8:=l.flatMap fun n=>fM (bW n)
theorem dL (l:List Int)(n:Int):dA (l++[n])=dA l++fM (bW n):=by simp [dA]
theorem jc (l:List Int)(h:∀n∈l,-9223372036854775808≤n∧n≤9223372036854775807):(dA l).length≤10*l.length:=by
 induction l with
 |nil=>simp [dA]
 |cons n l ih=>
  have h1:=bD _ (dG n (h n (by simp)).1 (h n (by simp)).2);have h2:=ih fun m hm=>h m (by simp [hm]);simp only [dA,List.flatMap_cons,List.length_append,List.length_cons] at*
  omega
structure an5 where
 q:List Int
 k:Nat
 e:Int
def abk:Nat→List UInt8→Nat→List Int→an5
 |0,_,p,acc=>⟨acc,p,0⟩
 |f+1,l,p,acc=>if (ad5 (l.drop p)).e=0 then abk f l (p+(ad5 (l.drop p)).k) (acc++[(ad5 (l.drop p)).n]) else ⟨[],0,(ad5 (l.drop p)).e⟩
theorem yO:∀(q:List Int) (p more:List UInt8) (acc:List Int),(∀n∈q,-9223372036854775808≤n∧n≤9223372036854775807)→
  abk q.length (p++(dA q++more)) p.length acc=⟨acc++q,p.length+(dA q).length,0⟩:=by
 intro q
 induction q with
 |nil=>intro p more acc _;simp [abk,dA]
 |cons n q ih=>
  intro p more acc hb;have e1:dA (n :: q)=fM (bW n)++dA q:=by simp [dA]
  simp only [List.length_cons,abk];rw [List.drop_left' rfl,e1,List.append_assoc,vU n (hb n (by simp)).1 (hb n (by simp)).2];simp only [if_true];have:=ih (p++fM (bW n)) more (acc++[n]) (fun m hm=>hb m (by simp [hm]));rw [List.length_append,List.append_assoc] at this;rw [this];simp only [List.append_assoc,List.cons_append,List.nil_append,List.length_append]
  congr 1
  omega
end Go.Proofs.YtodkhcbjpodgeaaGreat
