/-
  Appending what a slice reads as (nil and empty let in) onto a row of the call's own, elements of one cell.
-/
import Derived.Test.YtodkhcbjpodgeaaGreatG03
import Derived.Deep.AppendLies
import Derived.Deep.DeepAppendWide
import Derived.RegionTactic
import Derived.OwnWalk
import Derived.Lib.BufferRead
import Derived.Deep.RegionLaw
namespace Go.Proofs.YtodkhcbjpodgeaaGreat
open Go.ChangeShapes Go.WideShapes Go.ChangeAt Go.RowKit
set_option linter.unusedVariables false
set_option maxRecDepth 100000
set_option maxHeartbeats 4000000
section
variable {P:Program}(w:World)
theorem gN (base:Nat)(t ty e:TypeId)(i:TypeInfo)(size:Nat)(ht:P.underlying t=some (.slice e))(hi:P.info? e=some i)
  (v:Value) (n:Nat) (xs:List Value) (hown:w.ownsRow base e size v n xs) (c:Nat):(Builtin.append_ #[t,t] ty #[v,.slice none 0 c]).run P w= .ok v w:=by
 rcases hown.2 with ⟨rfl,rfl⟩|⟨g,cap,cur,rfl,_,_,hnc,_⟩
 ·simp [Builtin.append_,run_underlying ht,sizeOf,typeInfo,hi,Builtin.lenOf,Builtin.firstCells]
 ·simp [Builtin.append_,run_underlying ht,sizeOf,typeInfo,hi,Builtin.lenOf,Builtin.firstCells,hnc,storeCells]
def gV (w:World)(base:Nat)(e:TypeId)(v:Value)(n:Nat)(xs news:List Value)(m:Nat)(v' :Value)(w' :World):Prop:=
 w'.ownsRow base e 1 v' (n+m) (xs++news)∧w.grownBy w' v.ownBlock∧(v'.ownBlock=v.ownBlock∨v'.ownBlock=some w.heap.size)
theorem jW (base:Nat)(t ty e:TypeId)(i:TypeInfo)(z:Value)(size bytes:Nat)(ht:P.underlying t=some (.slice e))(hi:P.info? e=some i)(hz:i.zero=some z)
  (hsize:i.size=size) (hby:i.bytes=bytes) (hzs:z.cells.size=size) (hsz:0<size)
  (v:Value) (n:Nat) (xs:List Value) (hown:w.ownsRow base e size v n xs)
  (a:Addr) (m c:Nat) (news:List Value) (hl:news.length=m*size) (hnews:∀j u,news[j]? =some u→w.cell? (a.add j)=some u) (h1:∀u∈news,u.oneCell' =true)
  (h63:n+m≤maxLen) (hbytes:((n+m)+(n+m) / 4+192)*bytes≤281474976710656) (hbase:base≤w.heap.size):
  ∃v' w',(Builtin.append_ #[t,t] ty #[v,.slice (some a) m c]).run P w= .ok v' w'∧w'.ownsRow base e size v' (n+m) (xs++news)∧w.grownBy w' v.ownBlock∧
   (v'.ownBlock=v.ownBlock∨v'.ownBlock=some w.heap.size):=by
 obtain ⟨v',w',hrun,h2,h3,h4⟩:=run_append_own_wide (P:=P) w base t ty e i z size bytes ht hi hz hsize hby hzs hsz v n xs hown a m c news hl hnews h1 h63 hbytes hbase;refine ⟨v',w',hrun,h2,h3,?_⟩;have h63' :((n+m:Nat):Int)≤9223372036854775807:=by simp only [maxLen] at h63;omega
 subst hsize hby
 rcases hown.2 with ⟨rfl,rfl⟩|⟨g,cap,cur,rfl,hbg,hg,hnc,hcm,hcs,htake⟩
 ·by_cases hm:m=0
  ·exact .inl (by rw [h4.2 ⟨rfl,hm⟩])
  ·rw [Nat.zero_add] at h63' hbytes
   have hr:=run_append_nil (P:=P) w t ty e i z ht hi hz a m c news hl hnews oy h63' (Nat.le_trans (Nat.mul_le_mul_right _ oy) hbytes);rw [hr] at hrun;injection hrun with e1 e2;subst e1;exact .inr rfl
 ·by_cases hroom:n+m≤cap
  ·have hfit:n*i.size+news.length≤cur.size:=by rw [hl,hcs,←Nat.add_mul];exact Nat.mul_le_mul_right _ hroom
   have hr:=run_append_room (P:=P) w t ty e i ht hi g n cap cur hg a m c news hl hnews h1 hroom hfit;rw [hr] at hrun;injection hrun with e1 e2;subst e1;exact .inl rfl
  ·have holds:∀j u,xs[j]? =some u→w.cell? ((⟨g,0,none⟩:Addr).add j)=some u:=hown.cells (g:=g) rfl
   have hr:=run_append_grow (P:=P) w t ty e i z ht hi hz ⟨g,0,none⟩ n cap xs hown.1 holds a m c news hl hnews oy oy (growslice_fits_wide oy hbytes);rw [hr] at hrun;injection hrun with e1 e2;subst e1;exact .inr rfl
theorem pW (base:Nat)(t ty e:TypeId)(i:TypeInfo)(z:Value)(bytes:Nat)(ht:P.underlying t=some (.slice e))(hi:P.info? e=some i)(hz:i.zero=some z)
  (hsize:i.size=1) (hby:i.bytes=bytes) (hzs:z.cells.size=1)
  (v:Value) (n:Nat) (xs:List Value) (hown:w.ownsRow base e 1 v n xs)
  (B:Nat) (A:Option Addr) (m c:Nat) (news:List Value) (hA:A=none→m=0) (hr:Rd w B A news) (hn:news.length=m) (h1:∀u∈news,u.oneCell' =true)
  (h63:n+m≤maxLen) (hbytes:((n+m)+(n+m) / 4+192)*bytes≤281474976710656) (hbase:base≤w.heap.size):
  ∃v' w',(Builtin.append_ #[t,t] ty #[v,.slice A m c]).run P w= .ok v' w'∧gV w base e v n xs news m v' w' :=by
 rcases A with _|ad
 ·obtain rfl:=hA rfl
  obtain rfl:news=[]:=List.eq_nil_of_length_eq_zero hn;exact ⟨v,w,gN w base t ty e i 1 ht hi v n xs hown c,by simpa using hown,World.grownBy.refl w _,.inl rfl⟩
 ·have hcells:∀j u,news[j]? =some u→w.cell? (ad.add j)=some u:=by
   intro j u hu;obtain ⟨hj,hu⟩:=List.getElem?_eq_some_iff.1 hu;obtain ⟨b,off,he,_,hc⟩:=hr.at_ oy;injection he with he;subst he;have:=hc j hj;have ea:(⟨b,off,none⟩:Addr).add j=⟨b,off+j,none⟩:=by unfold Addr.add;split<;>simp_all
   rw [ea,this,hu]
  obtain ⟨v',w',hrun,h2,h3,h5⟩:=jW (P:=P) w base t ty e i z 1 bytes ht hi hz hsize hby hzs oy v n xs hown ad m c news oy hcells h1 h63 hbytes hbase;exact ⟨v',w',hrun,h2,h3,h5⟩
theorem kZ {o:Oper}{a:Act}{K:Act→World→Prop}{Q:Exit→Act→World→Prop}(s x:Operand)(t:TypeId)
  (ho:o.op= .call {callee:= .builtin .append,args:= #[s,x],argTypes:= #[t,t]})
  (base:Nat) (e:TypeId) (i:TypeInfo) (z:Value) (bytes:Nat) (ht:P.underlying t=some (.slice e)) (hi:P.info? e=some i) (hz:i.zero=some z)
  (hsize:i.size=1) (hby:i.bytes=bytes) (hzs:z.cells.size=1)
  (v:Value) (n:Nat) (xs:List Value) (hs:a.eval s=v) (hown:w.ownsRow base e 1 v n xs)
  (B:Nat) (A:Option Addr) (m c:Nat) (news:List Value) (hx:a.eval x= .slice A m c) (hA:A=none→m=0) (hr:Rd w B A news) (hn:news.length=m) (h1:∀u∈news,u.oneCell' =true)
  (h63:n+m≤maxLen) (hbytes:((n+m)+(n+m) / 4+192)*bytes≤281474976710656) (hbase:base≤w.heap.size)
  (h:∀v' w',gV w base e v n xs news m v' w'→K (a.put o.dst v') w'):o.wp P a w K Q:=by
 obtain ⟨v',w',hrun,h2⟩:=pW (P:=P) w base t o.type e i z bytes ht hi hz hsize hby hzs v n xs hown B A m c news hA hr hn h1 h63 hbytes hbase;unfold Oper.wp execOp;simp only [ho,resolve,invoke,builtin,Sem.run_bind,Sem.run_pure,Result.andThen_ok,List.map_toArray,List.map_cons,List.map_nil,hs,hx,hrun];exact h v' w' h2
theorem bN {ops:Array Oper}{rest:List Oper}{o:Oper}{a:Act}{Q:Exit→Act→World→Prop}(hgd:Region.wanted o (yielded ops a.tmps)=true)(s x:Operand)(t:TypeId)
  (ho:o.op= .call {callee:= .builtin .append,args:= #[s,x],argTypes:= #[t,t]})
  (base:Nat) (e:TypeId) (i:TypeInfo) (z:Value) (bytes:Nat) (ht:P.underlying t=some (.slice e)) (hi:P.info? e=some i) (hz:i.zero=some z)
  (hsize:i.size=1) (hby:i.bytes=bytes) (hzs:z.cells.size=1)
  (v:Value) (n:Nat) (xs:List Value) (hs:a.eval s=v) (hown:w.ownsRow base e 1 v n xs)
  (B:Nat) (A:Option Addr) (m c:Nat) (news:List Value) (hx:a.eval x= .slice A m c) (hA:A=none→m=0) (hr:Rd w B A news) (hn:news.length=m) (h1:∀u∈news,u.oneCell' =true)
  (h63:n+m≤maxLen) (hbytes:((n+m)+(n+m) / 4+192)*bytes≤281474976710656) (hbase:base≤w.heap.size)
  (h:∀v' w',gV w base e v n xs news m v' w'→wpList P ops Q rest (a.put o.dst v') w'):wpList P ops Q (o :: rest) a w:=
 wpList_step fun _ hK=>by
  rw [if_pos hgd];exact kZ w s x t ho base e i z bytes ht hi hz hsize hby hzs v n xs hs hown B A m c news hx hA hr hn h1 h63 hbytes hbase fun v' w' h2=>hK _ _ (h v' w' h2)
theorem nQ {ops:Array Oper}{o:Oper}{a:Act}{K:Act→World→Prop}{Q:Exit→Act→World→Prop}{E:Prop}(hgd:o.guard=none)(s x:Operand)(t:TypeId)
  (ho:o.op= .call {callee:= .builtin .append,args:= #[s,x],argTypes:= #[t,t]})
  (base:Nat) (e:TypeId) (i:TypeInfo) (z:Value) (bytes:Nat) (ht:P.underlying t=some (.slice e)) (hi:P.info? e=some i) (hz:i.zero=some z)
  (hsize:i.size=1) (hby:i.bytes=bytes) (hzs:z.cells.size=1)
  (v:Value) (n:Nat) (xs:List Value) (hs:a.eval s=v) (hown:w.ownsRow base e 1 v n xs)
  (B:Nat) (A:Option Addr) (m c:Nat) (news:List Value) (hx:a.eval x= .slice A m c) (hA:A=none→m=0) (hr:Rd w B A news) (hn:news.length=m) (h1:∀u∈news,u.oneCell' =true)
  (h63:n+m≤maxLen) (hbytes:((n+m)+(n+m) / 4+192)*bytes≤281474976710656) (hbase:base≤w.heap.size)
  (h:∀v' w',gV w base e v n xs news m v' w'→K (a.put o.dst v') w'):
  if Region.wanted o (yielded ops a.tmps)=true then Oper.wp P o a w K Q else E:=by
 have hw:Region.wanted o (yielded ops a.tmps)=true:=by simp [Region.wanted,hgd]
 rw [if_pos hw];exact kZ w s x t ho base e i z bytes ht hi hz hsize hby hzs v n xs hs hown B A m c news hx hA hr hn h1 h63 hbytes hbase h
end
theorem Rd.wL {w:World}{base:Nat}{e:TypeId}{A:Option Addr}{n c:Nat}{xs:List Value}(h:w.ownsRow base e 1 (.slice A n c) n xs):Rd w w.heap.size A xs:=by
 by_cases h0:xs=[]
 ·exact .inl h0
 ·have hx:0<xs.length:=by
   rcases xs with _|⟨x,xs⟩
   ·exact absurd rfl h0
   ·simp
  obtain ⟨g,cap,hv,_,hlt⟩:=h.form (by have:=h.1;omega);have hA:A=some ⟨g,0,none⟩:=by injection hv
  subst hA;refine .inr ⟨g,0,rfl,hlt,fun j hj=> ?_⟩;have:=h.cells (g:=g) rfl j xs[j] (List.getElem?_eq_getElem hj);have ea:(⟨g,0,none⟩:Addr).add j=⟨g,0+j,none⟩:=by unfold Addr.add;split<;>simp_all
  rw [ea] at this;exact this
theorem Rd.anh {w:World}{B:Nat}{A:Option Addr}{xs:List Value}(h:Rd w B A xs)(c k:Nat)(hc:xs.length≤c):Rd w B (if c=k then A else A.map (·.add k)) (xs.drop k):=by
 rcases h with rfl|⟨b,off,rfl,hb,hcell⟩
 ·exact .inl (by simp)
 ·by_cases hk:c=k
  ·exact .inl (List.drop_eq_nil_of_le oy)
  ·rw [if_neg hk]
   refine .inr ⟨b,off+k,?_,hb,fun j hj=> ?_⟩
   ·simp only [Option.map_some,Addr.add]
    split<;>simp_all
   ·rw [List.length_drop] at hj
    rw [Nat.add_assoc,hcell (k+j) oy,List.getElem_drop]
theorem ay {w:World}{base:Nat}{e:TypeId}{size n:Nat}{v:Value}{xs:List Value}(h:w.ownsRow base e size v n xs):∃A cap,v= .slice A n cap∧(A=none→n=0):=by
 rcases h.2 with ⟨rfl,rfl⟩|⟨g,cap,cur,rfl,_⟩
 ·exact ⟨none,0,rfl,fun _=>rfl⟩
 ·exact ⟨_,cap,rfl,fun h=>by cases h⟩
theorem dK {P:Program}{f:FuncId}{args:Array Value}{w:World}{n:Nat}{v:Value}
  (h:Calls P f args (w.drewN n) fun e w' =>e= .returned v∧w.drewN n=w'):Calls P f args (w.drewN n) fun e w'' =>e= .returned v∧∃m,w'' =w.drewN m:=
 h.mono fun _ _ ⟨he,hm⟩=>⟨he,n,hm.symm⟩
theorem iH:(Tryz.prog.info? 5).map (fun i=>(i.zero,i.size,i.bytes))=some (some (.int .u8 0),1,1):=by kernel_rfl
abbrev iv (n:Int):Value:= .int .i64 n
theorem nG (l:List UInt8):∀u∈l.map bv,u.oneCell' =true:=by
 intro u hu;obtain ⟨c,_,rfl⟩:=List.mem_map.1 hu
 rfl
end Go.Proofs.YtodkhcbjpodgeaaGreat
