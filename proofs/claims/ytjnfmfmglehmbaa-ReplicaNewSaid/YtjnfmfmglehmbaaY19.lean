/-
  The program's replica: a message is handled. Messages in memory, read by their places; what a call leaves of a replica of the caller's own. The contracts of note and awake of the replica's statements.
-/
import Derived.Test.YtjnfmfmglehmbaaY18
import Derived.Test.YtjnfmfmglehmbaaY16
import Derived.Test.YtjnfmfmglehmbaaY02
import Derived.OrdersHeld
import Derived.Deep.CutBlock
import Derived.Test.YtjnfmfmglehmbaaY15
namespace Go.Proofs.Ytjnfmfmglehmbaa
open Go.ChangeShapes Go.WideShapes Go.ChangeAt Go.RowKit
set_option linter.unusedVariables false
set_option maxRecDepth 100000
set_option maxHeartbeats 16000000
section
theorem CallTo.more {w w' :World} {F:Nat→Prop} {p n m:Nat} {x:Rs×List Ms} {e:Ending} (h:CallTo w F p x n e w') (hn:n≤m):CallTo w F p x m e w' :=by
 obtain ⟨A,c,F',G,h1,h2,h3,h4⟩:=h
 exact ⟨A,c,F',G,h1,h2,h3.more hn,h4⟩
theorem CallTo.lift {w w1 w' :World} {F F1:Nat→Prop} {p n:Nat} {x:Rs×List Ms} {e:Ending} (hf:Fr F w w1) (hi:∀i,F1 i→F i∨w.heap.size≤i) (h:CallTo w1 F1 p x n e w'):CallTo w F p x n e w' :=by
 obtain ⟨A,c,F',G,h1,h2,h3,h4,h5,h6,h7⟩:=h
 refine ⟨A,c,F',G,h1,h2,h3,fun i hh=> ?_,fun i hh=>Nat.le_trans hf.size (h5 i hh),h6,hf.trans h7 hi⟩
 rcases h4 i hh with q|q
 ·exact hi i q
 ·exact .inr (Nat.le_trans hf.size q)
theorem CallTo.after {w w1 w' :World} {F:Nat→Prop} {p n:Nat} {x:Rs×List Ms} {e:Ending} (hf:Fr No w w1) (h:CallTo w1 F p x n e w'):CallTo w F p x n e w' :=
 CallTo.lift (hf.mono fun _ hi=>hi.elim) (fun i hi=> .inl hi) h
section
variable {w w' :World} {F G:Nat→Prop} {p:Nat} {r:Rs} {s:Js} {n:Nat}
end
end
section
theorem msV_get:∀(ms:List Ms) (vs:List Value) (i j:Nat) (m:Ms) (v:Value),ms[i]? =some m→vs[i]? =some v→j<9→(msV ms vs)[i*9+j]? =(m.cells v)[j]? :=by
 intro ms
 induction ms with
 |nil=>intro vs i j m v h;simp at h
 |cons x ms ih=>
  intro vs i j m v h1 h2 hj
  rcases vs with _|⟨y,vs⟩
  ·simp at h2
  ·have hl:(x.cells y).length=9:=rfl
   simp only [msV]
   rcases i with _|i
   ·simp at h1 h2
    subst h1 h2
    rw [List.getElem?_append_left (by omega)]
    congr 1
    omega
   ·rw [List.getElem?_append_right (by omega),hl,show (i+1)*9+j-9=i*9+j from by omega]
    exact ih vs i j m v (by simpa using h1) (by simpa using h2) hj
abbrev MsCells (W:World) (b i:Nat) (m:Ms) (v:Value):Prop:=
 W.cell? ⟨b,i*9,none⟩=some (.int .i64 m.kind)∧W.cell? ⟨b,i*9+1,none⟩=some (.int .i64 m.from_)∧W.cell? ⟨b,i*9+2,none⟩=some (.int .i64 m.to_)∧W.cell? ⟨b,i*9+3,none⟩=some (.int .i64 m.term)∧W.cell? ⟨b,i*9+4,none⟩=some (.int .i64 m.index)∧W.cell? ⟨b,i*9+5,none⟩=some (.int .i64 m.prev)∧W.cell? ⟨b,i*9+6,none⟩=some (.int .i64 m.commit)∧W.cell? ⟨b,i*9+7,none⟩=some (.bool m.ok)∧W.cell? ⟨b,i*9+8,none⟩=some v
theorem MsIn.at_ {w:World} {Gs Ge:Nat→Prop} {A:Option Addr} {n c:Nat} {ms:List Ms} {vs:List Value} (h:MsIn w Gs Ge (.slice A n c) ms vs) {i:Nat} {m:Ms} (hi:ms[i]? =some m):
  ∃b v,A=some ⟨b,0,none⟩∧b<w.heap.size∧Gs b∧vs[i]? =some v∧Ent w Ge v m.es∧MsCells w b i m v:=by
 have hlt:=(List.getElem?_eq_some_iff.1 hi).1
 obtain ⟨A',c',e,-⟩:=h.own.form
 injection e with e1 e2 e3
 subst e1 e2 e3
 obtain ⟨b,rfl,hb,hF,hc⟩:=h.own.head (by omega)
 obtain ⟨v,hv⟩:∃v,vs[i]? =some v:=⟨_,List.getElem?_eq_getElem (by rw [h.len];exact hlt)⟩
 have hml:=msV_len ms vs h.len
 have g:=fun j (hj:j<9)=>((hc (i*9+j) (by omega)).trans (msV_get ms vs i j m v hi hv hj):w.cell? ⟨b,i*9+j,none⟩=(m.cells v)[j]?)
 exact ⟨b,v,rfl,hb,hF,hv,h.each i m v hi hv,g 0 (by omega),g 1 (by omega),g 2 (by omega),g 3 (by omega),g 4 (by omega),g 5 (by omega),g 6 (by omega),g 7 (by omega),g 8 (by omega)⟩
theorem MsgsAt.at_ {w:World} {G:Nat→Prop} {A:Option Addr} {n c:Nat} {ms:List Ms} (h:MsgsAt w G (.slice A n c) ms) {i:Nat} {m:Ms} (hi:ms[i]? =some m):
  ∃b v,A=some ⟨b,0,none⟩∧b<w.heap.size∧G b∧Ent w G v m.es∧MsCells w b i m v:=by
 obtain ⟨Gs,Ge,vs,h1,h2,h3⟩:=h
 obtain ⟨b,v,e1,e2,e3,e4,e5,e6⟩:=h1.at_ hi
 exact ⟨b,v,e1,e2,h2 b e3,e5.mono h3,e6⟩
theorem MsgsAt.len {w:World} {G:Nat→Prop} {A:Option Addr} {n c:Nat} {ms:List Ms} (h:MsgsAt w G (.slice A n c) ms):n=ms.length:=by
 obtain ⟨Gs,Ge,vs,h1,h2,h3⟩:=h
 obtain ⟨A',c',e,-⟩:=h1.own.form
 injection e
theorem MsCells.frNo {w W:World} {b i:Nat} {m:Ms} {v:Value} (h:MsCells w b i m v) (hb:b<w.heap.size) (hf:Fr No w W):MsCells W b i m v:=by
 have e:=fun o=>hf.cell (p:=⟨b,o,none⟩) hb (fun h=>h)
 obtain ⟨h0,h1,h2,h3,h4,h5,h6,h7,h8⟩:=h
 exact ⟨(e _).trans h0,(e _).trans h1,(e _).trans h2,(e _).trans h3,(e _).trans h4,(e _).trans h5,(e _).trans h6,(e _).trans h7,(e _).trans h8⟩
theorem CallTo.own {w0 w1 w' :World} {F:Nat→Prop} {p n:Nat} {x:Rs×List Ms} {e:Ending} (h:CallTo w1 F p x n e w') (hf:Fr No w0 w1) (hN:∀i,F i→w0.heap.size≤i):
  ∃A c F' G,e= .returned (.slice A x.2.length c)∧MsgsAt w' G (.slice A x.2.length c) x.2∧RAt w' F' p x.1 n∧(∀i,F' i→w0.heap.size≤i)∧(∀i,G i→w1.heap.size≤i)∧(∀i,F' i→¬G i)∧Fr No w0 w'∧(∀i,F' i→F i∨w1.heap.size≤i)∧Fr F w1 w' :=by
 obtain ⟨A,c,F',G,h1,h2,h3,h4,h5,h6,h7⟩:=h
 exact ⟨A,c,F',G,h1,h2,h3,fun i hi=>(h4 i hi).elim (fun q=>hN i q) (fun q=>Nat.le_trans hf.size q),h5,h6,hf.transNew h7 hN,h4,h7⟩
theorem CallTo2.own {w0 w1 w' :World} {F:Nat→Prop} {p n:Nat} {x:Rs×List Ms} {X:Int} {e:Ending} (h:CallTo2 w1 F p x X n e w') (hf:Fr No w0 w1) (hN:∀i,F i→w0.heap.size≤i):
  ∃A c F' G,e= .returned (.tuple #[.slice A x.2.length c,.int .i64 X])∧MsgsAt w' G (.slice A x.2.length c) x.2∧RAt w' F' p x.1 n∧(∀i,F' i→w0.heap.size≤i)∧(∀i,G i→w1.heap.size≤i)∧(∀i,F' i→¬G i)∧Fr No w0 w'∧(∀i,F' i→F i∨w1.heap.size≤i)∧Fr F w1 w' :=by
 obtain ⟨A,c,F',G,h1,h2,h3,h4,h5,h6,h7⟩:=h
 exact ⟨A,c,F',G,h1,h2,h3,fun i hi=>(h4 i hi).elim (fun q=>hN i q) (fun q=>Nat.le_trans hf.size q),h5,h6,hf.transNew h7 hN,h4,h7⟩
end
section
theorem note9_any (n:Int) (w:World):
  Calls Try.prog 23 #[.int .i64 n] w fun e w' =>e= .returned (noteE (n % 1000)).v∧Fr No w w' :=by
 have hm:=fun W=>mod_any n 1000 W (by decide) (by decide)
 unfold noteE En.v
 revert hm
 generalize n % 1000=m
 intro hm
 have HM:=Lib.hid hm
 clear hm
 go_enter Try.func23,Try.ntmps23
 go_wp2_with fail
 refine (HM.out _).mono ?_
 rintro e w1 ⟨rfl,rfl⟩
 go_wp2_with fail
 refine bodyPost_ret (v:= .agg _) (by simp [results,Try.results23,go_sem]) rfl ⟨rfl,?_⟩
 exact fr_alloc _ _
set_option maxRecDepth 100000 in
set_option maxHeartbeats 4000000 in
theorem awake9_any (w:World):
  Calls Try.prog 8 #[] w fun e w' =>e= .returned (.bool true)∧Fr No w w' :=by
 have hn1:∀W,Calls Try.prog 4 #[.int .i64 0,.int .i64 1] W fun e w' =>∃p F,e= .returned (.tuple #[.pointer (some ⟨p,0,none⟩),.int .i64 0])∧RAt w' F p (repNew 0 1) 0∧(∀i,F i→W.heap.size≤i)∧Fr No W w' :=fun W=>p_new 0 1 W (by decide) (by decide) (by decide)
 have hn3:∀W,Calls Try.prog 4 #[.int .i64 0,.int .i64 3] W fun e w' =>∃p F,e= .returned (.tuple #[.pointer (some ⟨p,0,none⟩),.int .i64 0])∧RAt w' F p (repNew 0 3) 0∧(∀i,F i→W.heap.size≤i)∧Fr No W w' :=fun W=>p_new 0 3 W (by decide) (by decide) (by decide)
 have hnote:∀W,Calls Try.prog 23 #[.int .i64 1] W fun e w' =>e= .returned (noteE 1).v∧Fr No W w' :=fun W=>note9_any 1 W
 have he:(noteE 1).ok:=noteE_ok 1 (by decide) (by decide)
 have x1:((repNew 0 1).campaign.1.propX (noteE 1))=0:=by decide+kernel
 have x2:((((repNew 0 1).campaign.1).propose (noteE 1)).1.commit:Int)=1:=by decide+kernel
 have x3:(((repNew 0 1).campaign.1).propose (noteE 1)).1.role=3:=by decide+kernel
 have y1:(repNew 0 3).campaign.2.length=2:=by decide+kernel
 have y2:(repNew 0 3).campaign.2[0]? =some ⟨1,0,1,1,0,0,0,false,[]⟩:=rfl
 have y3:(repNew 0 3).campaign.1.role=2:=by decide+kernel
 have HN1:=Lib.hid hn1
 have HN3:=Lib.hid hn3
 have HNOTE:=Lib.hid hnote
 have HE:=Lib.hid he
 have X1:=Lib.hid x1
 have X2:=Lib.hid x2
 have X3:=Lib.hid x3
 have Y1:=Lib.hid y1
 have Y2:=Lib.hid y2
 have Y3:=Lib.hid y3
 clear hn1 hn3 hnote he x1 x2 x3 y1 y2 y3
 go_enter Try.func8,Try.ntmps8
 go_wp2_with fail
 refine (HN1.out _).mono ?_
 rintro e w1 ⟨pa,Fa,rfl,a1,n1,f1⟩
 have A1:=Lib.hid a1
 have N1:=Lib.hid n1
 have F1:=Lib.hid f1
 clear a1 n1 f1
 go_wp2_with fail
 refine (HN3.out _).mono ?_
 rintro e w2 ⟨pb,Fb,rfl,b2,n2,f2⟩
 have hab:∀i,Fb i→¬Fa i:=fun i hi hh=>by have h1:=A1.out.lt i hh;have h2:=n2 i hi;omega
 have a2:=A1.out.frNo f2
 have n2' :∀i,Fb i→w.heap.size≤i:=fun i hi=>Nat.le_trans F1.out.size (n2 i hi)
 replace f2:=F1.out.transNo f2
 clear A1 F1 n2
 have HAB:=Lib.hid hab
 have A2:=Lib.hid a2
 have N2' :=Lib.hid n2'
 have F2:=Lib.hid f2
 have B2:=Lib.hid b2
 clear hab a2 n2' f2 b2
 go_wp2_with fail
 refine (p_campaign A2.out (by omega)).mono ?_
 rintro e w3 q3
 obtain ⟨U3,c3,H3,G3,rfl,m3,a3,n3,g3,d3,f3,i3,f3'⟩:=q3.own F2.out N1.out
 have b3:=B2.out.fr f3' HAB.out
 have hab3:∀i,Fb i→¬H3 i:=fun i hi hh=>by
  rcases i3 i hh with q|q
  ·exact HAB.out i hi q
  ·have:=B2.out.lt i hi;omega
 clear A2 B2 F2 N1 HAB m3 g3 d3 f3' i3
 have A3:=Lib.hid a3
 have B3:=Lib.hid b3
 have N3:=Lib.hid n3
 have F3:=Lib.hid f3
 have HAB3:=Lib.hid hab3
 clear a3 b3 n3 f3 hab3
 go_wp2_with fail
 refine (HNOTE.out _).mono ?_
 rintro e w4 ⟨rfl,f4⟩
 have a4:=A3.out.frNo f4
 have b4:=B3.out.frNo f4
 replace f4:=F3.out.transNo f4
 clear A3 B3 F3
 have A4:=Lib.hid a4
 have B4:=Lib.hid b4
 have F4:=Lib.hid f4
 clear a4 b4 f4
 go_wp2_with fail
 refine (p_propose A4.out (noteE 1) HE.out (by omega)).mono ?_
 rintro e w5 q5
 obtain ⟨U5,c5,H5,G5,rfl,m5,a5,n5,g5,d5,f5,i5,f5'⟩:=q5.own F4.out N3.out
 have b5:=B4.out.fr f5' HAB3.out
 have hab5:∀i,Fb i→¬H5 i:=fun i hi hh=>by
  rcases i5 i hh with q|q
  ·exact HAB3.out i hi q
  ·have:=B4.out.lt i hi;omega
 rw [X1.out]
 clear B4 F4 N3 m5 g5 d5 i5 f5' A4 HAB3
 have A5:=Lib.hid a5
 have B5:=Lib.hid b5
 have N5:=Lib.hid n5
 have F5:=Lib.hid f5
 have HAB5:=Lib.hid hab5
 clear a5 b5 n5 f5 hab5
 go_wp2_with fail
 refine (p_campaign B5.out (by omega)).mono ?_
 rintro e w6 q6
 obtain ⟨U6,c6,H6,G6,rfl,m6,a6,n6,g6,d6,f6,i6,f6'⟩:=q6.own F5.out N2'.out
 have b6:=A5.out.fr f6' fun i hi hh=>HAB5.out i hh hi
 rw [Y1.out] at m6 ⊢
 obtain ⟨bb,v6,rfl,hb6,hg6,he6,k0,k1,k2,k3,-⟩:=m6.at_ Y2.out
 simp only [Nat.zero_mul,Nat.zero_add] at k0 k1 k2 k3
 have hc:=p_commit b6
 rw [X2.out] at hc
 have hr:=p_role b6
 have hr2:=p_role a6
 rw [Y3.out] at hr2
 rw [X3.out] at hr
 clear A5 B5 F5 HAB5 m6 g6 d6 i6 f6' b6 a6 he6 n6 k1 k2
 have F6:=Lib.hid f6
 have HC:=Lib.hid hc
 have HR:=Lib.hid hr
 have HR2:=Lib.hid hr2
 clear f6 hc hr hr2
 go_wp2_with fail
 refine HC.out.mono ?_
 rintro e w7 ⟨rfl,rfl⟩
 go_wp2_with fail
 refine HR.out.mono ?_
 rintro e w7 ⟨rfl,rfl⟩
 go_wp2_with fail
 refine HR2.out.mono ?_
 rintro e w7 ⟨rfl,rfl⟩
 go_wp2_with fail
 go_ret
 exact ⟨ret_bool rfl,F6.out⟩
end
end Go.Proofs.Ytjnfmfmglehmbaa
