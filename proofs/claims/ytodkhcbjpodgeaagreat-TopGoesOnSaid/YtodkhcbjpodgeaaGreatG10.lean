/-
  A region whose operations that make memory may come up in many orders: what each leaves holds in all orders.
-/
import Derived.Test.YtodkhcbjpodgeaaGreatG07
import Derived.OrdersHeld
import Derived.Deep.RegionHeld
namespace Go.Proofs.YtodkhcbjpodgeaaGreat
open Go.ChangeShapes Go.WideShapes Go.ChangeAt Go.RowKit
set_option linter.unusedVariables false
set_option maxRecDepth 100000
set_option maxHeartbeats 4000000
set_option linter.unusedSimpArgs false
def upM {α:Type}(f:Nat→α)(i:Nat)(x:α):Nat→α:=fun j=>if j=i then x else f j
theorem jT {α:Type}(f:Nat→α)(i:Nat)(x:α):upM f i x i=x:=if_pos rfl
theorem dH {α:Type}(f:Nat→α){i j:Nat}(x:α)(h:j≠i):upM f i x j=f j:=if_neg h
def cA (dst:Nat→Nat)(D:Nat→Bool)(u:Nat→Value):List Nat→Act→Act
 |[],a=>a
 |i :: E,a=>cA dst D u E (if D i=true then a.put (some (dst i)) (u i) else a)
def cL (D:Nat→Bool):List Nat→Array Bool→Array Bool
 |[],l=>l
 |i :: E,l=>cL D E (if D i=true then l.setIfInBounds i true else l)
def rem (D:Nat→Bool):List Nat→Nat
 |[]=>0
 |i :: E=>rem D E+(if D i=true then 0 else 1)
variable {dst:Nat→Nat}{D D' :Nat→Bool}{u u' :Nat→Value}
theorem qC:∀(E:List Nat) (a:Act),(∀i∈E,D i=D' i∧u i=u' i)→cA dst D u E a=cA dst D' u' E a
 |[],_,_=>rfl
 |i :: E,a,h=>by
  obtain ⟨h1,h2⟩:=h i (by simp);simp only [cA,h1,h2];exact qC E _ fun j hj=>h j (by simp [hj])
theorem qB:∀(E:List Nat) (l:Array Bool),(∀i∈E,D i=D' i)→cL D E l=cL D' E l
 |[],_,_=>rfl
 |i :: E,l,h=>by
  simp only [cL,h i (by simp)];exact qB E _ fun j hj=>h j (by simp [hj])
theorem ac2:∀(E:List Nat) (a:Act),(∀i∈E,D i=false)→cA dst D u E a=a
 |[],_,_=>rfl
 |i :: E,a,h=>by
  simp only [cA,h i (by simp),Bool.false_eq_true,if_false];exact ac2 E _ fun j hj=>h j (by simp [hj])
theorem ac0:∀(E:List Nat) (l:Array Bool),(∀i∈E,D i=false)→cL D E l=l
 |[],_,_=>rfl
 |i :: E,l,h=>by
  simp only [cL,h i (by simp),Bool.false_eq_true,if_false];exact ac0 E _ fun j hj=>h j (by simp [hj])
theorem ahp (t:Nat)(v:Value):∀(E:List Nat) (a:Act),(∀i∈E,dst i≠t)→(cA dst D u E a).put (some t) v=cA dst D u E (a.put (some t) v)
 |[],_,_=>rfl
 |i :: E,a,h=>by
  simp only [cA];rw [ahp t v E _ fun j hj=>h j (by simp [hj])];have hc:∀d,some (dst i)=some d→(some t:Option Tmp)≠some d:=fun d e e2=>h i (by simp) (Option.some.inj (e.trans e2.symm))
  split
  ·rw [Act.put_comm a (u i) v hc]
  ·rfl
theorem aho (t:Nat):∀(E:List Nat) (l:Array Bool),(∀i∈E,i≠t)→(cL D E l).setIfInBounds t true=cL D E (l.setIfInBounds t true)
 |[],_,_=>rfl
 |i :: E,l,h=>by
  simp only [cL];rw [aho t E _ fun j hj=>h j (by simp [hj])]
  split
  ·rw [Array.setIfInBounds_comm _ _ (h i (by simp))]
  ·rfl
theorem ac1 (i:Nat)(v:Value):∀(E:List Nat) (a:Act),E.Nodup→i∈E→(∀j∈E,j≠i→dst j≠dst i)→D i=false→(cA dst D u E a).put (some (dst i)) v=cA dst (upM D i true) (upM u i v) E a
 |[],_,_,h,_,_=>absurd h (by simp)
 |j :: E,a,hn,hi,hj,hD=>by
  obtain ⟨hn1,hn2⟩:=List.nodup_cons.1 hn;simp only [cA]
  by_cases e:j=i
  ·subst e
   rw [ahp (dst j) v E _ fun k hk=>hj k (by simp [hk]) (fun e=>hn1 (e▸hk)),hD];simp only [jT,Bool.false_eq_true,if_false,if_true];exact qC E _ fun k hk=>⟨(dH D true (fun (e:k=j)=>hn1 (e▸hk))).symm,(dH u v (fun (e:k=j)=>hn1 (e▸hk))).symm⟩
  ·rw [dH D true e,dH u v e]
   exact ac1 i v E _ hn2 ((List.mem_cons.1 hi).resolve_left (fun h=>e h.symm)) (fun k hk=>hj k (by simp [hk])) hD
theorem acz (i:Nat):∀(E:List Nat) (l:Array Bool),E.Nodup→i∈E→D i=false→(cL D E l).setIfInBounds i true=cL (upM D i true) E l
 |[],_,_,h,_=>absurd h (by simp)
 |j :: E,l,hn,hi,hD=>by
  obtain ⟨hn1,hn2⟩:=List.nodup_cons.1 hn;simp only [cL]
  by_cases e:j=i
  ·subst e
   rw [aho j E _ fun k hk e=>hn1 (e▸hk),hD];simp only [jT,Bool.false_eq_true,if_false,if_true];exact qB E _ fun k hk=>(dH D true (fun (e:k=j)=>hn1 (e▸hk))).symm
  ·rw [dH D true e]
   exact acz i E _ hn2 ((List.mem_cons.1 hi).resolve_left (fun h=>e h.symm)) hD
theorem rH:∀(E:List Nat),(∀i∈E,D i=D' i)→rem D E=rem D' E
 |[],_=>rfl
 |i :: E,h=>by
  simp only [rem,h i (by simp)];rw [rH E fun j hj=>h j (by simp [hj])]
theorem wE (i:Nat):∀(E:List Nat),E.Nodup→i∈E→D i=false→rem (upM D i true) E+1=rem D E
 |[],_,h,_=>absurd h (by simp)
 |j :: E,hn,hi,hD=>by
  obtain ⟨hn1,hn2⟩:=List.nodup_cons.1 hn;simp only [rem]
  by_cases e:j=i
  ·subst e
   rw [hD,jT];have:=rH (D:=upM D j true) (D' :=D) E fun k hk=>dH D true (fun (e:k=j)=>hn1 (e▸hk));simp only [if_true,Bool.false_eq_true,if_false]
   omega
  ·rw [dH D true e]
   have:=wE i E hn2 ((List.mem_cons.1 hi).resolve_left (fun h=>e h.symm)) hD
   omega
theorem wC:∀(E:List Nat),rem D E=0→∀i∈E,D i=true
 |[],_=>fun i hi=>absurd hi (by simp)
 |j :: E,h=>fun i hi=>by
  simp only [rem] at h;have h1:D j=true:=by
   cases hd:D j with
   |true=>rfl
   |false=>rw [hd] at h;simp at h
  rcases List.mem_cons.1 hi with rfl|hi
  ·exact h1
  ·exact wC E oy i hi
theorem aam:∀(E:List Nat) (n:Nat),rem D E=n+1→∃i∈E,D i=false
 |[],n,h=>by simp [rem] at h
 |j :: E,n,h=>by
  cases hd:D j with
  |false=>exact ⟨j,by simp,hd⟩
  |true=>
   simp only [rem,hd,if_true] at h;obtain ⟨i,hi,hD⟩:=aam E n oy;exact ⟨i,by simp [hi],hD⟩
theorem wF:∀(E:List Nat),(∀i∈E,D i=false)→rem D E=E.length
 |[],_=>rfl
 |j :: E,h=>by
  simp only [rem,h j (by simp),List.length_cons,Bool.false_eq_true,if_false];rw [wF E fun i hi=>h i (by simp [hi])]
theorem eval_put {a:Act}{t s:Nat}{v:Value}(h:t≠s):(a.put (some t) v).eval (.tmp s)=a.eval (.tmp s):=by
 simp [Act.put,Act.eval,Array.getElem?_setIfInBounds,h]
theorem kV (s:Nat):∀(E:List Nat) (a:Act),(∀i∈E,dst i≠s)→(cA dst D u E a).eval (.tmp s)=a.eval (.tmp s)
 |[],_,_=>rfl
 |i :: E,a,h=>by
  simp only [cA];rw [kV s E _ fun j hj=>h j (by simp [hj])]
  split
  ·exact eval_put (h i (by simp))
  ·rfl
theorem nE (i:Nat):∀(E:List Nat) (a:Act),E.Nodup→i∈E→(∀j∈E,j≠i→dst j≠dst i)→D i=true→dst i<a.tmps.size→(cA dst D u E a).eval (.tmp (dst i))=u i
 |[],_,_,h,_,_,_=>absurd h (by simp)
 |j :: E,a,hn,hi,hj,hD,hs=>by
  obtain ⟨hn1,hn2⟩:=List.nodup_cons.1 hn;simp only [cA]
  by_cases e:j=i
  ·subst e
   rw [kV (dst j) E _ fun k hk=>hj k (by simp [hk]) (fun e=>hn1 (e▸hk)),hD,if_pos rfl]
   simp [Act.put,Act.eval,hs]
  ·refine nE i E _ hn2 ((List.mem_cons.1 hi).resolve_left (fun h=>e h.symm)) (fun k hk=>hj k (by simp [hk])) hD ?_
   split
   ·simpa [Act.put] using hs
   ·exact hs
section
variable {P:Program}{ops:Array Oper}{Q:Exit→Act→World→Prop}{md:Region.Mode}{S:World→Prop}
theorem pK (E:List Nat)(dst:Nat→Nat)(dep:Nat→List Nat)(R:Nat→Value→World→Prop)(fuel:Nat)(hn:E.Nodup)(hinj:∀i∈E,∀j∈E,j≠i→dst j≠dst i){a1:Act}{l1:Array Bool}{w0:World}
  (hR:∀i v w w',R i v w→Fr No w w'→R i v w')
  (hrd:∀D:Nat→Bool,(∃i∈E,D i=false)→(∀i∈E,D i=true→∀j∈dep i,D j=true)→Region.ready md ops (cL D E l1)≠[]∧∀i∈Region.ready md ops (cL D E l1),i∈E∧D i=false∧∀j∈dep i,D j=true)
  (hS:∀w,Fr No w0 w→S w)
  (hst:∀i∈E,∀(D:Nat→Bool) (u:Nat→Value) (w:World),(∀j∈dep i,D j=true)→Fr No w0 w→(∀j∈E,D j=true→R j (u j) w)→∀K:Act→World→Prop,(∀v w',Fr No w w'→R i v w'→K ((cA dst D u E a1).put (some (dst i)) v) w')→wpOp P ops Q i K (cA dst D u E a1) w)
  (hend:∀(u:Nat→Value) (w:World),Fr No w0 w→(∀j∈E,R j (u j) w)→wpAnyH P md ops Q S fuel (cL (fun _=>true) E l1) (cA dst (fun _=>true) u E a1) w):
  ∀w,Fr No w0 w→wpAnyH P md ops Q S (fuel+E.length) l1 a1 w:=by
 have key:∀(n:Nat) (D:Nat→Bool) (u:Nat→Value) (w:World),rem D E=n→(∀i∈E,D i=true→∀j∈dep i,D j=true)→Fr No w0 w→(∀j∈E,D j=true→R j (u j) w)→wpAnyH P md ops Q S (fuel+n) (cL D E l1) (cA dst D u E a1) w:=by
  intro n
  induction n with
  |zero=>
   intro D u w hr hc hf hu;have hD:=wC E hr;rw [qB (D' :=fun _=>true) E l1 hD,qC (D' :=fun _=>true) (u' :=u) E a1 fun i hi=>⟨hD i hi,rfl⟩];exact hend u w hf fun j hj=>hu j hj (hD j hj)
  |succ n ih=>
   intro D u w hr hc hf hu;obtain ⟨h1,h2⟩:=hrd D (aam E n hr) hc;refine ⟨fun h=>absurd h h1,fun i hi=> ?_⟩;obtain ⟨hE,hD,aoz⟩:=h2 i hi;refine hst i hE D u w aoz hf hu _ fun v w' f r=>⟨hS w' (hf.ah f),?_⟩;rw [acz i E l1 hn hE hD,ac1 i v E a1 hn hE (hinj i hE) hD];refine ih _ _ w' (by have:=wE i E hn hE hD;omega) (fun k hk hDk j hj=> ?_) (hf.ah f) fun j hj hDj=> ?_
   ·by_cases e:j=i
    ·rw [e,jT]
    ·rw [dH D true e]
     by_cases e2:k=i
     ·exact aoz j (e2▸hj)
     ·rw [dH D true e2] at hDk
      exact hc k hk hDk j hj
   by_cases e:j=i
   ·subst e
    rw [jT];exact r
   ·rw [dH D true e] at hDj
    rw [dH u v e];exact hR j _ w w' (hu j hj hDj) f
 intro w hf;have:=key E.length (fun _=>false) (fun _=>undef) w (wF E fun _ _=>rfl) (fun i _ h=>absurd h (by simp)) hf (fun j _ h=>absurd h (by simp));rw [ac0 E l1 fun _ _=>rfl,ac2 E a1 fun _ _=>rfl] at this;exact this
theorem jS {i:Nat}{o:Oper}{a:Act}{w w' :World}{v:Value}{K:Act→World→Prop}(ho:ops[i]? =some o)(hg:o.guard=none)(hr:(execOp a.eval o).run P w= .ok (.value v) w')(hK:K (a.put o.dst v) w'):wpOp P ops Q i K a w:=by
 unfold wpOp;simp only [ho];rw [if_pos (by simp [Region.wanted,hg])];refine .inl ?_;unfold Oper.wp;rw [hr];exact hK
theorem zL {i:Nat}{o:Oper}{a:Act}{w:World}{f:FuncId}{args:Array Value}{K:Act→World→Prop}(ho:ops[i]? =some o)(hg:o.guard=none)(hr:(execOp a.eval o).run P w= .ok (.enter f args) w)(hK:Calls P f args w fun e w' =>∃v,e= .returned v∧K (a.put o.dst v) w'):wpOp P ops Q i K a w:=by
 unfold wpOp;simp only [ho];rw [if_pos (by simp [Region.wanted,hg])];refine .inl ?_;unfold Oper.wp;rw [hr];refine hK.mono ?_;rintro e w' ⟨v,rfl,h⟩;exact h
end
end Go.Proofs.YtodkhcbjpodgeaaGreat
