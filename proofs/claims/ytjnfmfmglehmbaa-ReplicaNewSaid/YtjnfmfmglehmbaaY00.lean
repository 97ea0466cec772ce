/-
  The plain law of the wire's integers: which bytes an integer takes, what is read back from bytes. No program in sight. The plain law of entries: which entries have the right shape, which bytes they have. No program in sight. The bytes of a list of integers, and how they are read. No program in sight.
-/
namespace Go.Proofs.Ytjnfmfmglehmbaa
set_option linter.unusedVariables false
set_option maxRecDepth 100000
set_option maxHeartbeats 16000000
section
def codeN (n:Int):Nat:=if 0≤n then 2*n.toNat else 2*(-(n+1)).toNat+1
def numN (u:Nat):Int:=if u % 2=0 then (u / 2:Nat) else -((u / 2:Nat):Int)-1
theorem numN_codeN (n:Int):numN (codeN n)=n:=by
 unfold numN codeN
 split<;>split<;>omega
theorem codeN_lt (n:Int) (h1: -9223372036854775808≤n) (h2:n≤9223372036854775807):codeN n<18446744073709551616:=by
 unfold codeN
 split<;>omega
def encN (u:Nat):List UInt8:=if h:u<128 then [UInt8.ofNat u] else UInt8.ofNat (u % 128+128) :: encN (u / 128)
termination_by u
decreasing_by omega
theorem encN_lt (u:Nat) (h:u<128):encN u=[UInt8.ofNat u]:=by rw [encN,dif_pos h]
theorem encN_ge (u:Nat) (h:¬u<128):encN u=UInt8.ofNat (u % 128+128) :: encN (u / 128):=by rw [encN,dif_neg h]
theorem encN_pos (u:Nat):1≤(encN u).length:=by
 rw [encN]
 split<;>simp
theorem encN_len:∀(k u:Nat),u<128 ^ k→0<k→(encN u).length≤k:=by
 intro k
 induction k with
 |zero=>intro u _ h;omega
 |succ k ih=>
  intro u hu _
  by_cases h:u<128
  ·rw [encN_lt u h];simp
  ·rw [encN_ge u h,List.length_cons]
   have hk:0<k:=by
    rcases Nat.eq_zero_or_pos k with rfl|hk
    ·simp at hu;omega
    ·exact hk
   have:=ih (u / 128) (by rw [Nat.pow_succ] at hu;exact Nat.div_lt_of_lt_mul (by rw [Nat.mul_comm];exact hu)) hk
   omega
theorem encN_len10 (u:Nat) (h:u<18446744073709551616):(encN u).length≤10:=encN_len 10 u (by omega) (by omega)
def valN:List UInt8→Nat
 |[]=>0
 |x :: l=>x.toNat % 128+128*valN l
theorem valN_append (l m:List UInt8):valN (l++m)=valN l+128 ^ l.length*valN m:=by
 induction l with
 |nil=>simp [valN]
 |cons x l ih=>
  simp only [List.cons_append,valN,ih,List.length_cons,Nat.pow_succ]
  rw [Nat.mul_add,Nat.mul_comm (128 ^ l.length) 128,Nat.mul_assoc]
  omega
structure Tak where
 n:Int
 k:Nat
 e:Int
deriving DecidableEq
def Tak.short:Tak:=⟨0,0,17⟩
def Tak.corrupt:Tak:=⟨0,0,18⟩
def takF:Nat→List UInt8→List UInt8→Tak
 |0,_,_=> .corrupt
 |_+1,_,[]=> .short
 |f+1,p,x :: l=>
  if x.toNat<128 then
   if (0<p.length∧x.toNat=0)∨(p.length=9∧1<x.toNat) then .corrupt
   else ⟨numN (valN (p++[x])),p.length+1,0⟩
  else takF f (p++[x]) l
def takN (l:List UInt8):Tak:=takF 10 [] l
theorem takF_enc:∀(u f:Nat) (p:List UInt8) (more:List UInt8),p.length+f=10→(encN u).length≤f→(0<p.length→0<u)→u*128 ^ p.length<18446744073709551616→
  takF f p (encN u++more)=⟨numN (valN p+128 ^ p.length*u),p.length+(encN u).length,0⟩:=by
 intro u
 induction u using Nat.strongRecOn with
 |ind u ih=>
  intro f p more hf hl hp hlt
  by_cases h:u<128
  ·rw [encN_lt u h] at hl ⊢
   simp only [List.length_singleton] at hl
   obtain ⟨f,rfl⟩:∃f',f=f' +1:=⟨f-1,by omega⟩
   simp only [List.cons_append,List.nil_append,takF,UInt8.toNat_ofNat',List.length_singleton]
   have hm:u % 2 ^ 8=u:=by omega
   rw [hm,if_pos h,if_neg,valN_append]
   ·simp only [valN,UInt8.toNat_ofNat',hm]
    rw [show u % 128+128*0=u from by omega]
   ·rintro (⟨h1,h2⟩|⟨h1,h2⟩)
    ·have:=hp h1;omega
    ·rw [h1] at hlt;omega
  ·rw [encN_ge u h] at hl ⊢
   simp only [List.length_cons] at hl
   obtain ⟨f,rfl⟩:∃f',f=f' +1:=⟨f-1,by omega⟩
   simp only [List.cons_append,takF,UInt8.toNat_ofNat',List.length_cons]
   have hm:(u % 128+128) % 2 ^ 8=u % 128+128:=by omega
   rw [hm,if_neg (by omega)]
   have hlt' :u / 128*128 ^ (p.length+1)<18446744073709551616:=by
    rw [Nat.pow_succ]
    refine Nat.lt_of_le_of_lt ?_ hlt
    rw [Nat.mul_comm (128 ^ p.length) 128,←Nat.mul_assoc]
    exact Nat.mul_le_mul_right _ (by omega)
   rw [ih (u / 128) (by omega) f (p++[UInt8.ofNat (u % 128+128)]) more (by simp;omega) (by omega) (fun _=>by omega) (by simpa using hlt')]
   simp only [List.length_append,List.length_singleton,valN_append,valN,UInt8.toNat_ofNat',hm]
   congr 1
   ·congr 1
    rw [Nat.pow_succ,Nat.mul_assoc]
    rw [show (u % 128+128) % 128+128*0=u % 128 from by omega,Nat.add_assoc,←Nat.mul_add]
    congr 1
    congr 1
    omega
   ·omega
theorem takN_enc (n:Int) (h1: -9223372036854775808≤n) (h2:n≤9223372036854775807) (more:List UInt8):
  takN (encN (codeN n)++more)=⟨n,(encN (codeN n)).length,0⟩:=by
 have hc:=codeN_lt n h1 h2
 unfold takN
 rw [takF_enc (codeN n) 10 [] more rfl (encN_len10 _ hc) (fun h=>by simp at h) (by simpa using hc)]
 simp [valN,numN_codeN]
end
section
structure En where
 kind:Int
 tick:Int
 tenant:Int
 cell:Int
 other:Int
 epoch:Int
 from_:Int
 until_:Int
 n:Int
deriving DecidableEq
def En.l (e:En):List Int:=[e.kind,e.tick,e.tenant,e.cell,e.other,e.epoch,e.from_,e.until_,e.n]
theorem En.l_len (e:En):e.l.length=9:=rfl
def En.of (l:List Int):En:=⟨l.getD 0 0,l.getD 1 0,l.getD 2 0,l.getD 3 0,l.getD 4 0,l.getD 5 0,l.getD 6 0,l.getD 7 0,l.getD 8 0⟩
theorem En.of_l (e:En):En.of e.l=e:=by cases e;rfl
def En.ok (e:En):Prop:=∀x∈e.l,-9223372036854775808≤x∧x≤9223372036854775807
instance (e:En):Decidable e.ok:=by unfold En.ok;infer_instance
def inB (a b n:Int):Bool:=decide (a≤n) && decide (n≤b)
structure Sp where
 lo:Int
 hi:Int
def Sp.has (s:Sp) (n:Int):Bool:=inB s.lo s.hi n
structure Fm where
 tenant:Sp
 cell:Sp
 other:Sp
 epoch:Sp
 ticks:Sp
 n:Sp
abbrev spNone:Sp:=⟨-1,-1⟩
abbrev spZero:Sp:=⟨0,0⟩
def formN (k nt nc nr nv:Int):Fm:=
 if k=1 then ⟨⟨0,nt-1⟩,⟨0,nc-1⟩,⟨-1,nc-1⟩,spZero,spZero,spZero⟩
 else if k=2 then ⟨⟨0,nt-1⟩,⟨0,nc-1⟩,spNone,⟨1,1048576⟩,⟨0,1073741824⟩,⟨0,nv-1⟩⟩
 else if k=3 then ⟨⟨0,nt-1⟩,spNone,spNone,⟨1,1048576⟩,spZero,spZero⟩
 else if k=4 then ⟨⟨0,nt-1⟩,⟨-1,nc-1⟩,spNone,spZero,spZero,spZero⟩
 else if k=5∨k=6 then ⟨⟨0,nt-1⟩,⟨0,nc-1⟩,spNone,spZero,spZero,spZero⟩
 else if k=7 then ⟨⟨0,nt-1⟩,spNone,spNone,spZero,spZero,spZero⟩
 else if k=8 then ⟨⟨0,nt-1⟩,spNone,spNone,spZero,spZero,⟨0,1⟩⟩
 else if k=9 then ⟨spNone,⟨0,nc-1⟩,spNone,spZero,spZero,⟨1,3⟩⟩
 else if k=10∨k=11 then ⟨spNone,⟨0,nc-1⟩,spNone,spZero,spZero,⟨0,nv-1⟩⟩
 else if k=12 then ⟨spNone,spNone,spNone,spZero,spZero,⟨0,nv-1⟩⟩
 else if k=13 then ⟨spNone,spNone,⟨0,nr-1⟩,spZero,spZero,⟨0,1⟩⟩
 else if k=14∨k=15 then ⟨spNone,spNone,spNone,spZero,spZero,spZero⟩
 else ⟨spNone,spNone,spNone,spZero,spZero,⟨0,1073741824⟩⟩
def fitsB (e:En) (nt nc nr nv:Int):Bool:=
 inB 1 16 e.kind && !(decide (e.kind=1) && decide (e.other=e.cell)) && inB 0 1073741824 e.tick &&
 (formN e.kind nt nc nr nv).tenant.has e.tenant && (formN e.kind nt nc nr nv).cell.has e.cell && (formN e.kind nt nc nr nv).other.has e.other &&
 (formN e.kind nt nc nr nv).epoch.has e.epoch && (formN e.kind nt nc nr nv).ticks.has e.from_ && (formN e.kind nt nc nr nv).ticks.has e.until_ && (formN e.kind nt nc nr nv).n.has e.n
def shapeB (e:En):Bool:=fitsB e 32 16 4 30
end
section
def intsF (l:List Int):List UInt8:=l.flatMap fun n=>encN (codeN n)
theorem intsF_snoc (l:List Int) (n:Int):intsF (l++[n])=intsF l++encN (codeN n):=by simp [intsF]
theorem intsF_len (l:List Int) (h:∀n∈l,-9223372036854775808≤n∧n≤9223372036854775807):(intsF l).length≤10*l.length:=by
 induction l with
 |nil=>simp [intsF]
 |cons n l ih=>
  have h1:=encN_len10 _ (codeN_lt n (h n (by simp)).1 (h n (by simp)).2)
  have h2:=ih fun m hm=>h m (by simp [hm])
  simp only [intsF,List.flatMap_cons,List.length_append,List.length_cons] at*
  omega
structure IntsT where
 q:List Int
 k:Nat
 e:Int
def intsG:Nat→List UInt8→Nat→List Int→IntsT
 |0,_,p,acc=>⟨acc,p,0⟩
 |f+1,l,p,acc=>if (takN (l.drop p)).e=0 then intsG f l (p+(takN (l.drop p)).k) (acc++[(takN (l.drop p)).n]) else ⟨[],0,(takN (l.drop p)).e⟩
theorem intsG_back:∀(q:List Int) (p more:List UInt8) (acc:List Int),(∀n∈q,-9223372036854775808≤n∧n≤9223372036854775807)→
  intsG q.length (p++(intsF q++more)) p.length acc=⟨acc++q,p.length+(intsF q).length,0⟩:=by
 intro q
 induction q with
 |nil=>intro p more acc _;simp [intsG,intsF]
 |cons n q ih=>
  intro p more acc hb
  have e1:intsF (n :: q)=encN (codeN n)++intsF q:=by simp [intsF]
  simp only [List.length_cons,intsG]
  rw [List.drop_left' rfl,e1,List.append_assoc,takN_enc n (hb n (by simp)).1 (hb n (by simp)).2]
  simp only [if_true]
  have:=ih (p++encN (codeN n)) more (acc++[n]) (fun m hm=>hb m (by simp [hm]))
  rw [List.length_append,List.append_assoc] at this
  rw [this]
  simp only [List.append_assoc,List.cons_append,List.nil_append,List.length_append]
  congr 1
  omega
end
end Go.Proofs.Ytjnfmfmglehmbaa
