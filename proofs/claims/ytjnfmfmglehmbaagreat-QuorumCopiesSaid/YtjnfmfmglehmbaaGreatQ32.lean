/-
  Copies of slices: slices.Clone of entries, of logged entries, of messages.
-/
import Derived.Test.YtjnfmfmglehmbaaGreatQ29
import Derived.Lib.SliceRun
namespace Go.Proofs.YtjnfmfmglehmbaaGreat
open Go.ChangeShapes Go.WideShapes Go.ChangeAt Go.RowKit
set_option linter.unusedVariables false
set_option maxRecDepth 100000
set_option maxHeartbeats 4000000
def mI (w:World)(T:TypeId)(size n:Nat)(xs:List Value)(e:Ending)(w' :World):Prop:=
 ∃A c,e= .returned (.slice A n c)∧bG w' (fun b=>w.heap.size≤b) T size (.slice A n c) n xs∧Fr No w w'
theorem qQ (w:World)(A:Option Addr)(n c:Nat)(xs:List Value)(hA:A=none→n=0)(hr:Rd w w.heap.size A xs)(hn:xs.length=n*9)(h1:∀u∈xs,u.oneCell' =true)(hl:n≤1000000):Calls Tryz.prog 77 #[.slice A n c] w (mI w TEq 9 n xs):=by
 obtain ⟨i1,hi1,hz0,hz1,hz2⟩:=info_parts uM;have hnil:∀(W:World) (a:Option Addr) (n c n' c' :Nat),(binOp .eql 64 (.slice a n c) (.slice none n' c')).run Tryz.prog W= .ok (.bool a.isNone) W:=fun W a n c n' c' =>Lib.run_eql_slice_nil W _ TEq a n c n' c' rfl
 rcases A with _|A
 ·obtain rfl:n=0:=hA rfl
  obtain rfl:xs=[]:=List.eq_nil_of_length_eq_zero (by simpa using hn);clear hA hr hn h1
  go_in
  go_wp2_with fail
  go_ret
  exact ⟨none,0,rfl,bG.nil _ _ _ _,Fr.refl _ _⟩
 ·have hown:bG (w.alloc (.cells #[] TEq)) (fun i=>w.heap.size≤i) TEq 9 (.slice (some ⟨w.heap.size,0,none⟩) 0 0) 0 []:=⟨World.ownsRow_made w #[] 0 (Nat.zero_le _) (Nat.zero_le _) rfl,fun g hg=>by simp [Value.ownBlock] at hg;omega⟩
  have hr2:=hr.ak (aj w (.cells #[] TEq)) (Nat.le_refl _);clear hA hr;obtain ⟨HR2,H1,HN,HOWN⟩:=fK hr2 h1 hn hown;clear hr2 h1 hn hown
  go_in
  go_wp2_with (at_builtin;refine bK _ rfl (.tmp 5) (.tmp 6) _ rfl 0 TEq i1 _ 9 72 Tryz.underlying64 hi1 hz0 hz1 hz2 rfl dcd (.slice (some ⟨w.heap.size,0,none⟩) 0 0) 0 [] rfl HOWN.out.1 w.heap.size (some A) n c xs rfl (fun h=>by cases h) HR2.out HN.out H1.out mxl oy (Nat.zero_le _) ?_)
  intro v1 w2 happ;obtain ⟨A4,c4,rfl,n4⟩:=aC happ.1;clear n4;obtain ⟨o1,f1⟩:=HOWN.out.appended happ
  go_wp2_with fail
  go_ret
  rw [Nat.zero_add] at o1 ⊢;exact ⟨A4,c4,rfl,o1.mono fun b hb=>(by rcases hb with hb|hb;exact hb;simp at hb;omega),(aj w _).aA f1 fun i hi=>hi⟩
theorem oL (w:World)(A:Option Addr)(n c:Nat)(xs:List Value)(hA:A=none→n=0)(hr:Rd w w.heap.size A xs)(hn:xs.length=n*10)(h1:∀u∈xs,u.oneCell' =true)(hl:n≤1000000):Calls Tryz.prog 118 #[.slice A n c] w (mI w TLg 10 n xs):=by
 obtain ⟨i1,hi1,hz0,hz1,hz2⟩:=info_parts fV;have hnil:∀(W:World) (a:Option Addr) (n c n' c' :Nat),(binOp .eql 34 (.slice a n c) (.slice none n' c')).run Tryz.prog W= .ok (.bool a.isNone) W:=fun W a n c n' c' =>Lib.run_eql_slice_nil W _ TLg a n c n' c' rfl
 rcases A with _|A
 ·obtain rfl:n=0:=hA rfl
  obtain rfl:xs=[]:=List.eq_nil_of_length_eq_zero (by simpa using hn);clear hA hr hn h1
  go_in
  go_wp2_with fail
  go_ret
  exact ⟨none,0,rfl,bG.nil _ _ _ _,Fr.refl _ _⟩
 ·have hown:bG (w.alloc (.cells #[] TLg)) (fun i=>w.heap.size≤i) TLg 10 (.slice (some ⟨w.heap.size,0,none⟩) 0 0) 0 []:=⟨World.ownsRow_made w #[] 0 (Nat.zero_le _) (Nat.zero_le _) rfl,fun g hg=>by simp [Value.ownBlock] at hg;omega⟩
  have hr2:=hr.ak (aj w (.cells #[] TLg)) (Nat.le_refl _);clear hA hr;obtain ⟨HR2,H1,HN,HOWN⟩:=fK hr2 h1 hn hown;clear hr2 h1 hn hown
  go_in
  go_wp2_with (at_builtin;refine bK _ rfl (.tmp 5) (.tmp 6) _ rfl 0 TLg i1 _ 10 80 Tryz.underlying34 hi1 hz0 hz1 hz2 rfl dcd (.slice (some ⟨w.heap.size,0,none⟩) 0 0) 0 [] rfl HOWN.out.1 w.heap.size (some A) n c xs rfl (fun h=>by cases h) HR2.out HN.out H1.out mxl oy (Nat.zero_le _) ?_)
  intro v1 w2 happ;obtain ⟨A4,c4,rfl,n4⟩:=aC happ.1;clear n4;obtain ⟨o1,f1⟩:=HOWN.out.appended happ
  go_wp2_with fail
  go_ret
  rw [Nat.zero_add] at o1 ⊢;exact ⟨A4,c4,rfl,o1.mono fun b hb=>(by rcases hb with hb|hb;exact hb;simp at hb;omega),(aj w _).aA f1 fun i hi=>hi⟩
theorem ng (w:World)(A:Option Addr)(n c:Nat)(xs:List Value)(hA:A=none→n=0)(hr:Rd w w.heap.size A xs)(hn:xs.length=n*9)(h1:∀u∈xs,u.oneCell' =true)(hl:n≤1000000):Calls Tryz.prog 117 #[.slice A n c] w (mI w TMs 9 n xs):=by
 obtain ⟨i1,hi1,hz0,hz1,hz2⟩:=info_parts jY;have hnil:∀(W:World) (a:Option Addr) (n c n' c' :Nat),(binOp .eql 63 (.slice a n c) (.slice none n' c')).run Tryz.prog W= .ok (.bool a.isNone) W:=fun W a n c n' c' =>Lib.run_eql_slice_nil W _ TMs a n c n' c' rfl
 rcases A with _|A
 ·obtain rfl:n=0:=hA rfl
  obtain rfl:xs=[]:=List.eq_nil_of_length_eq_zero (by simpa using hn);clear hA hr hn h1
  go_in
  go_wp2_with fail
  go_ret
  exact ⟨none,0,rfl,bG.nil _ _ _ _,Fr.refl _ _⟩
 ·have hown:bG (w.alloc (.cells #[] TMs)) (fun i=>w.heap.size≤i) TMs 9 (.slice (some ⟨w.heap.size,0,none⟩) 0 0) 0 []:=⟨World.ownsRow_made w #[] 0 (Nat.zero_le _) (Nat.zero_le _) rfl,fun g hg=>by simp [Value.ownBlock] at hg;omega⟩
  have hr2:=hr.ak (aj w (.cells #[] TMs)) (Nat.le_refl _);clear hA hr;obtain ⟨HR2,H1,HN,HOWN⟩:=fK hr2 h1 hn hown;clear hr2 h1 hn hown
  go_in
  go_wp2_with (at_builtin;refine bK _ rfl (.tmp 5) (.tmp 6) _ rfl 0 TMs i1 _ 9 88 Tryz.underlying63 hi1 hz0 hz1 hz2 rfl dcd (.slice (some ⟨w.heap.size,0,none⟩) 0 0) 0 [] rfl HOWN.out.1 w.heap.size (some A) n c xs rfl (fun h=>by cases h) HR2.out HN.out H1.out mxl oy (Nat.zero_le _) ?_)
  intro v1 w2 happ;obtain ⟨A4,c4,rfl,n4⟩:=aC happ.1;clear n4;obtain ⟨o1,f1⟩:=HOWN.out.appended happ
  go_wp2_with fail
  go_ret
  rw [Nat.zero_add] at o1 ⊢;exact ⟨A4,c4,rfl,o1.mono fun b hb=>(by rcases hb with hb|hb;exact hb;simp at hb;omega),(aj w _).aA f1 fun i hi=>hi⟩
section
theorem agl (l:List En):∀u∈gV l,u.oneCell' =true:=by
 intro u hu;obtain ⟨e,-,hu⟩:=List.mem_flatMap.1 hu;exact uK e u hu
section
variable {w w' :World}{lab lab' :Nat→Option Nat}{z n m:Nat}{pv:Nat→Nat}{q q1:Qs}{F:Nat→Prop}
set_option maxHeartbeats 1000000 in
theorem qh (h:QAt w lab z pv q n):Calls Tryz.prog 59 #[.pointer (some ⟨z,0,none⟩)] w (mI w TEq 9 q.done.length (gV q.done)):=by
 obtain ⟨Ar,cr,NV,DV,vs,h1,h2,h3,h4⟩:=h.mem;obtain ⟨A,c,rfl,hA⟩:=h4.form;have hc:=qQ w A q.done.length c (gV q.done) hA h4.rd (uL _) (agl _) (by have:=h.ok.done;omega);have z2:w.cell? ⟨z,2,none⟩=some (.slice A q.done.length c):=h1.cell 2;have hzl:=h.lt z 0 h.z0;clear h h1 h2 h3 h4 hA;generalize gV q.done=X at*;generalize q.done.length=L at*;have HC:=O hc;clear hc
 go_in
 go_wp2_with fail
 refine HC.out.mono ?_;rintro e w1 m1;have M:=O m1;obtain ⟨A,c,rfl,-⟩:=m1
 go_wp2_with fail
 go_ret
 exact M.out
end
end
section
theorem zh (l:List Lg):∀u∈dD l,u.oneCell' =true:=by
 intro u hu;obtain ⟨e,-,hu⟩:=List.mem_flatMap.1 hu;exact ado e u hu
theorem bG.am4 {w:World}{F:Nat→Prop}{e:TypeId}{size g n c:Nat}{xs:List Value}(h:bG w F e size (.slice (some ⟨g,0,none⟩) n c) n xs){o:Nat}(ho:o<xs.length)(u:Value):
  bG (w.setCell ⟨g,o,none⟩ u) F e size (.slice (some ⟨g,0,none⟩) n c) n (xs.set o u)∧w.frozen? ⟨g,o,none⟩=false∧(∃v,w.cell? ⟨g,o,none⟩=some v):=by
 rcases h.1.2 with ⟨hv,h0⟩|⟨g',cap,cur,hv,hb,hgg,hnc,hcm,hcs,htk⟩
 ·cases hv
 ·injection hv with e1 e2 e3
  injection e1 with e1;injection e1 with e1;subst e1 e3;have hbk:Blk w g e cur:=hgg;have hoc:o<cur.size:=by
   have:=h.1.1;rw [hcs];exact nll oy (Nat.mul_le_mul_right _ hnc)
  refine ⟨⟨⟨by rw [List.length_set];exact h.1.1,.inr ⟨g,c,cur.setIfInBounds o u,rfl,hb,hbk.aU o u,hnc,hcm,by rw [Array.size_setIfInBounds];exact hcs,?_⟩⟩,h.2⟩,hbk.frozen o,cur[o],?_⟩
  ·rw [Array.toList_setIfInBounds,List.take_set,htk]
  ·rw [hbk.cell o,Array.getElem?_eq_getElem hoc]
section
variable {w w' :World}{lab lab' :Nat→Option Nat}{z n m:Nat}{pv:Nat→Nat}{q q1:Qs}{F:Nat→Prop}
theorem aaw {Gs Ge:Nat→Prop}{A:Option Addr}{c:Nat}{ms:List Ms}{vs:List Value}(h:gB w Gs Ge (.slice A ms.length c) ms vs)(hl:ms.length≤256)(hes:∀m∈ms,m.es.length≤4096):Calls Tryz.prog 76 #[.slice A ms.length c] w fun e w' =>∃A' c',e= .returned (.slice A' ms.length c')∧Fr No w w' :=by
 obtain ⟨A0,c0,hv,hA⟩:=h.own.form;injection hv with e1 e2 e3;subst e1 e3;clear e2;have hc:=ng w A ms.length c (msV ms vs) hA h.own.rd h.own.1.1 (jC _ _ h.ah3) oy;have hcap:=h.own.cap;unfold maxLen at hcap;have hat:=fun W (hf:Fr No w W) i m (hm:ms[i]? =some m)=>(h.ak hf).at_ hm;obtain ⟨L,hL⟩:∃L,L=ms.length:=⟨_,rfl⟩;rw [←hL] at hc hcap hl ⊢;clear h hA;obtain ⟨HC,HAT,HES,HL⟩:=fK hc hat hes hL;clear hc hat hes hL
 go_in
 go_wp2_with fail
 refine HC.out.mono ?_;rintro e w1 ⟨A4,c4,rfl,o1,f1⟩;have hcap4:=o1.cap;unfold maxLen at hcap4
 go_wp2_with fail
 go_loopw [10] (fun i wr=>∃k:Nat,k≤L∧i= .int .i64 k∧∃xs,bG wr (fun b=>w.heap.size≤b) TMs 9 (.slice A4 L c4) L xs∧Fr No w wr) (fun i _=>L-(intOf i).toNat)
 case atStart=>exact ⟨0,Nat.zero_le _,rfl,_,o1,f1⟩
 case round=>
  obtain ⟨k,hk,rfl,xs,o2,f2⟩:=hrel;clear o1 f1
  by_cases hlt:k<L
  ·have b1:decide (k<L)=true:=decide_eq_true hlt
   have b2:decide ((k:Int)<(L:Int))=true:=dtt;obtain ⟨m,hm⟩:∃m,ms[k]? =some m:=⟨_,List.getElem?_eq_getElem (by rw [←HL.out];exact hlt)⟩;have hme:=HES.out m (List.mem_of_getElem? hm);obtain ⟨bl,x,rfl,hbl,-,-,hxe,d0,d1,d2,d3,d4,d5,d6,d7,d8⟩:=HAT.out _ f2 k m hm;obtain ⟨Ax,cx,rfl⟩:∃Ax cx,x= .slice Ax m.es.length cx:=(let ⟨A,c,e,_⟩:=hxe;⟨A,c,e⟩);obtain ⟨g,rfl,hgl,hgF,-⟩:=o2.head oy;obtain ⟨kd,mf,mto,mt,ix,pr,cm,ok,es⟩:=m;simp only at hme hxe d0 d1 d2 d3 d4 d5 d6 d7 d8;obtain ⟨W1,hW1⟩:∃W1,W1=World.alloc wr (.cells #[.int .i64 kd,.int .i64 mf,.int .i64 mto,.int .i64 mt,.int .i64 ix,.int .i64 pr,.int .i64 cm,.bool ok,.slice Ax es.length cx] TMs):=⟨_,rfl⟩;obtain ⟨gx,hgx⟩:∃gx,gx=wr.heap.size:=⟨_,rfl⟩;have hfx:Fr No wr W1:=by rw [hW1];exact aj _ _
   have hbx:Blk W1 gx TMs (Ms.cells ⟨kd,mf,mto,mt,ix,pr,cm,ok,es⟩ (.slice Ax es.length cx)).toArray:=by rw [hgx,hW1];exact Blk.new _ _ _
   have hcl:Calls Tryz.prog 118 #[.slice Ax es.length cx] W1 (mI W1 TLg 10 es.length (dD es)):=(let hx:=(hxe.ak hfx).rd;oL W1 Ax es.length cx (dD es) hx.2.1 hx.2.2.2.2 (bg _) (zh _) oy);have x8:W1.cell? ⟨gx,8,none⟩=some (.slice Ax es.length cx):=hbx.cell 8;have hxl:=hbx.lt;have hln:xs.length=L*9:=o2.1.1;have hpk:=fun W (hf:Fr No W1 W) u=>((o2.ak hfx).ak hf).am4 (o:=k*9+8) (by rw [hln];omega) u;have F1:=O (f2.ah hfx);have aa9:=nll hgl hfx.size;clear hm hme hxe hbx hfx o2 f2 hln;obtain ⟨HCL,HW1,HGX,HPK⟩:=fK hcl hW1 hgx hpk;clear hcl hW1 hgx hpk
   go_upto_region 5 with fail
   rw [←HW1.out,←HGX.out];clear HW1 HGX d0 d1 d2 d3 d4 d5 d6 d7 d8
   go_wp2_with fail
   refine HCL.out.mono ?_;rintro e w5 ⟨A6,c6,rfl,-,f5⟩;obtain ⟨o6,y6,v6,z6⟩:=HPK.out _ f5 (.slice A6 es.length c6);have T9:=O (show (∃xs,bG (w5.setCell ⟨g,k*9+8,none⟩ (.slice A6 es.length c6)) (fun b=>w.heap.size≤b) TMs 9 (.slice (some ⟨g,0,none⟩) L c4) L xs)∧Fr No w (w5.setCell ⟨g,k*9+8,none⟩ (.slice A6 es.length c6)) from ⟨⟨_,o6⟩,(F1.out.ah f5).setCell (p:=⟨g,k*9+8,none⟩) (.inr hgF) _⟩);have arx:=nll aa9 f5.size;clear o6 f5 HPK HCL F1
   go_wp2_with fail
   go_roundw
   case rel=>exact ⟨k+1,by omega,by go_num,T9.out.1.choose,T9.out.1.choose_spec,T9.out.2⟩
   case measure=>simp [intOf];omega
  ·obtain rfl:k=L:=by omega
   have b1:decide (k<k)=false:=by simp
   clear o2
   go_wp2_with fail
   go_ret
   exact ⟨A4,c4,rfl,f2⟩
set_option maxHeartbeats 1000000 in
theorem acy (h:QAt w lab z pv q n):Calls Tryz.prog 69 #[.pointer (some ⟨z,0,none⟩)] w fun e w' =>∃A' c',e= .returned (.slice A' q.net.length c')∧Fr No w w' :=by
 obtain ⟨Ar,cr,NV,DV,vs,h1,h2,h3,h4⟩:=h.mem;obtain ⟨A,c,rfl,-⟩:=h3.own.form;have hc:=aaw h3 h.ok.net (fun m hm=>(h.ok.msgs m hm).few);have z1:w.cell? ⟨z,1,none⟩=some (.slice A q.net.length c):=h1.cell 1;have hzl:=h.lt z 0 h.z0;clear h h1 h2 h3 h4;generalize q.net.length=L at*;have HC:=O hc;clear hc
 go_in
 go_wp2_with fail
 refine HC.out.mono ?_;rintro e w1 ⟨A4,c4,rfl,f4⟩
 go_wp2_with fail
 go_ret
 exact ⟨A4,c4,rfl,f4⟩
end
end
section
theorem af4:∀(ms:List Ms) (va vb:List Value) (v u:Value) (k:Nat) (m:Ms),ms[k]? =some m→va.length=k→(msV ms (va++v :: vb)).set (k*9+8) u=msV ms (va++u :: vb):=by
 intro ms
 induction ms with
 |nil=>intro va vb v u k m h;simp at h
 |cons x l ih=>
  intro va vb v u k m h hk
  rcases va with _|⟨y,va⟩
  ·simp only [List.length_nil] at hk
   subst hk
   simp [msV,Ms.cells]
  ·rcases k with _|k
   ·simp at hk
   ·simp only [List.cons_append,msV]
    rw [List.set_append_right _ _ (by simp [Ms.cells];omega)];rw [show (k+1)*9+8-(x.cells y).length=k*9+8 from by simp [Ms.cells];omega];rw [ih va vb v u k m (by simpa using h) (by simpa using hk)]
def aa7 (w:World)(A:Option Addr)(L c:Nat)(ms:List Ms)(vs:List Value)(k:Nat)(W:World):Prop:=
 ∃va,va.length=k∧bG W (fun b=>w.heap.size≤b) TMs 9 (.slice A L c) L (msV ms (va++vs.drop k))∧(∀(i:Nat) m x,ms[i]? =some m→va[i]? =some x→Ent W (fun b=>w.heap.size≤b∧A≠some ⟨b,0,none⟩) x m.es)∧Fr No w W
theorem aa7.next {w W W5:World}{g L c k:Nat}{ms:List Ms}{vs va:List Value}{m:Ms}{u:Value}(hL:L=ms.length)(hv:vs.length=ms.length)(hm:ms[k]? =some m)(h1:va.length=k)
  (h2:bG W (fun b=>w.heap.size≤b) TMs 9 (.slice (some ⟨g,0,none⟩) L c) L (msV ms (va++vs.drop k))) (h3:∀(i:Nat) m x,ms[i]? =some m→va[i]? =some x→Ent W (fun b=>w.heap.size≤b∧some (⟨g,0,none⟩:Addr)≠some ⟨b,0,none⟩) x m.es) (h4:Fr No w W)
  (hg:w.heap.size≤g∧g<W.heap.size) (hf:Fr No W W5) {B:Nat} (hB:W.heap.size≤B) (hu:bG W5 (fun b=>B≤b) TLg 10 u m.es.length (dD m.es)):
  aa7 w (some ⟨g,0,none⟩) L c ms vs (k+1) (W5.setCell ⟨g,k*9+8,none⟩ u)∧W5.frozen? ⟨g,k*9+8,none⟩=false∧(∃v,W5.cell? ⟨g,k*9+8,none⟩=some v):=by
 have hk:k<ms.length:=by
  have:=(List.getElem?_eq_some_iff.1 hm).1;exact this
 have hdr:vs.drop k=vs[k]'oy :: vs.drop (k+1):=List.drop_eq_getElem_cons oy;have hlen:(msV ms (va++vs.drop k)).length=ms.length*9:=qA _ _ (by rw [List.length_append,List.length_drop];omega);obtain ⟨o6,y6,v6⟩:=(h2.ak hf).am4 (o:=k*9+8) (by rw [hlen];omega) u;rw [hdr,af4 ms va _ _ u k m hm h1] at o6;have hs:=h4.size;have hfs:=hf.size;have hfz:Fr (fun b=>b=g) W5 (W5.setCell ⟨g,k*9+8,none⟩ u):=dx W5 ⟨g,k*9+8,none⟩ u;refine ⟨⟨va++[u],by rw [List.length_append,List.length_singleton,h1],?_,fun i m' x hm' hx=> ?_,(h4.ah hf).setCell (p:=⟨g,k*9+8,none⟩) (.inr hg.1) _⟩,y6,v6⟩
 ·rw [List.append_assoc];exact o6
 ·rcases Nat.lt_or_ge i va.length with hi|hi
  ·rw [List.getElem?_append_left hi] at hx
   refine ((h3 i m' x hm' hx).ak hf).fr hfz fun b hb e=> ?_;rw [e] at hb;exact hb.2 rfl
  ·rw [List.getElem?_append_right hi] at hx
   have hi0:i-va.length=0:=by
    have:=(List.getElem?_eq_some_iff.1 hx).1
    simp at this;omega
   rw [hi0] at hx;simp only [List.getElem?_cons_zero,Option.some.injEq] at hx;subst hx;obtain rfl:i=k:=by omega
   rw [hm] at hm';injection hm' with hm';subst hm';refine ((Ent.iW hu).fr hfz fun b hb e=> ?_).mono fun b hb=>⟨?_,fun e=> ?_⟩
   ·have hb:B≤b:=hb
    have e:b=g:=e
    omega
   ·have hb:B≤b:=hb
    omega
   ·have hb:B≤b:=hb
    injection e with e;injection e with e
    omega
def ae2 (w:World)(ms:List Ms)(e:Ending)(w' :World):Prop:=∃A c Gs Ge vs,e= .returned (.slice A ms.length c)∧gB w' Gs Ge (.slice A ms.length c) ms vs∧(∀b,Gs b→w.heap.size≤b)∧(∀b,Ge b→w.heap.size≤b)∧Fr No w w'
theorem aa7.done {w W:World}{A:Option Addr}{L c:Nat}{ms:List Ms}{vs:List Value}(h:aa7 w A L c ms vs L W)(hL:L=ms.length)(hv:vs.length=ms.length):ae2 w ms (.returned (.slice A L c)) W:=by
 obtain ⟨va,h1,h2,h3,h4⟩:=h;subst hL;rw [List.drop_of_length_le oy,List.append_nil] at h2;have hlt:=h2.lt
 rcases h2.1.2 with ⟨hv0,h0⟩|⟨g,cap,cur,hv0,-⟩
 ·injection hv0 with e1 e2 e3
  subst e1;exact ⟨none,c,fun _=>False,fun b=>w.heap.size≤b∧b<W.heap.size,va,rfl,⟨⟨h2.1,fun g hg=>by cases hg⟩,h1,fun i m x hm hx=>(h3 i m x hm hx).lt.mono fun b hb=>⟨hb.1.1,hb.2⟩,fun i hi=>hi.elim,fun i hi=>hi.elim,fun i hi=>hi.2⟩,fun i hi=>hi.elim,fun i hi=>hi.1,h4⟩
 ·injection hv0 with e1 e2 e3
  subst e1;exact ⟨some ⟨g,0,none⟩,c,fun b=>b=g,fun b=>(w.heap.size≤b∧b≠g)∧b<W.heap.size,va,rfl,⟨⟨h2.1,fun b hb=>by injection hb with hb;exact hb.symm⟩,h1,fun i m x hm hx=>(h3 i m x hm hx).lt.mono fun b hb=>⟨⟨hb.1.1,fun e=>hb.1.2 (by rw [e])⟩,hb.2⟩,fun i hi hj=>hj.1.2 hi,fun i hi=>by rw [show i=g from hi];exact hlt g rfl,fun i hi=>hi.2⟩,fun i hi=>by rw [show i=g from hi];exact h2.2 g rfl,fun i hi=>hi.1.1,h4⟩
section
variable {w w' :World}{lab lab' :Nat→Option Nat}{z n m:Nat}{pv:Nat→Nat}{q q1:Qs}{F:Nat→Prop}
theorem tH {Gs Ge:Nat→Prop}{A:Option Addr}{c:Nat}{ms:List Ms}{vs:List Value}(h:gB w Gs Ge (.slice A ms.length c) ms vs)(hl:ms.length≤256)(hes:∀m∈ms,m.es.length≤4096):Calls Tryz.prog 76 #[.slice A ms.length c] w (ae2 w ms):=by
 have hlv:=h.len;obtain ⟨A0,c0,hv,hA⟩:=h.own.form;injection hv with e1 e2 e3;subst e1 e3;clear e2;have hc:=ng w A ms.length c (msV ms vs) hA h.own.rd h.own.1.1 (jC _ _ h.ah3) oy;have hcap:=h.own.cap;unfold maxLen at hcap;have hat:=fun W (hf:Fr No w W) i m (hm:ms[i]? =some m)=>(h.ak hf).at_ hm;obtain ⟨L,hL⟩:∃L,L=ms.length:=⟨_,rfl⟩;rw [←hL] at hc hcap hl ⊢;clear h hA;obtain ⟨HC,HAT,HES,HL,HLV⟩:=jr hc hat hes hL hlv;clear hc hat hes hL hlv
 go_in
 go_wp2_with fail
 refine HC.out.mono ?_;rintro e w1 ⟨A4,c4,rfl,o1,f1⟩;have hcap4:=o1.cap;unfold maxLen at hcap4
 go_wp2_with fail
 go_loopw [10] (fun i wr=>∃k:Nat,k≤L∧i= .int .i64 k∧aa7 w A4 L c4 ms vs k wr) (fun i _=>L-(intOf i).toNat)
 case atStart=>exact ⟨0,Nat.zero_le _,rfl,[],rfl,o1,fun i m x _ hx=>by simp at hx,f1⟩
 case round=>
  obtain ⟨k,hk,rfl,hrel⟩:=hrel;clear o1 f1
  by_cases hlt:k<L
  ·obtain ⟨va,ov,o2,oe,f2⟩:=hrel
   have b1:decide (k<L)=true:=decide_eq_true hlt;have b2:decide ((k:Int)<(L:Int))=true:=dtt;obtain ⟨m,hm⟩:∃m,ms[k]? =some m:=⟨_,List.getElem?_eq_getElem (by rw [←HL.out];exact hlt)⟩;have hme:=HES.out m (List.mem_of_getElem? hm);obtain ⟨bl,x,rfl,hbl,-,-,hxe,d0,d1,d2,d3,d4,d5,d6,d7,d8⟩:=HAT.out _ f2 k m hm;obtain ⟨Ax,cx,rfl⟩:∃Ax cx,x= .slice Ax m.es.length cx:=(let ⟨A,c,e,_⟩:=hxe;⟨A,c,e⟩);obtain ⟨g,rfl,hgl,hgF,-⟩:=o2.head oy;obtain ⟨kd,mf,mto,mt,ix,pr,cm,ok,es⟩:=m;simp only at hme hxe d0 d1 d2 d3 d4 d5 d6 d7 d8;obtain ⟨W1,hW1⟩:∃W1,W1=World.alloc wr (.cells #[.int .i64 kd,.int .i64 mf,.int .i64 mto,.int .i64 mt,.int .i64 ix,.int .i64 pr,.int .i64 cm,.bool ok,.slice Ax es.length cx] TMs):=⟨_,rfl⟩;obtain ⟨gx,hgx⟩:∃gx,gx=wr.heap.size:=⟨_,rfl⟩;have hfx:Fr No wr W1:=by rw [hW1];exact aj _ _
   have hbx:Blk W1 gx TMs (Ms.cells ⟨kd,mf,mto,mt,ix,pr,cm,ok,es⟩ (.slice Ax es.length cx)).toArray:=by rw [hgx,hW1];exact Blk.new _ _ _
   have hcl:Calls Tryz.prog 118 #[.slice Ax es.length cx] W1 (mI W1 TLg 10 es.length (dD es)):=(let hx:=(hxe.ak hfx).rd;oL W1 Ax es.length cx (dD es) hx.2.1 hx.2.2.2.2 (bg _) (zh _) oy);have x8:W1.cell? ⟨gx,8,none⟩=some (.slice Ax es.length cx):=hbx.cell 8;have hxl:=hbx.lt;have hpk:=fun W (hf:Fr No W1 W) u hu=>aa7.next (W5:=W) (u:=u) (B:=W1.heap.size) HL.out HLV.out hm ov o2 oe f2 ⟨hgF,hgl⟩ (hfx.ah hf) hfx.size hu;have F1:=O (f2.ah hfx);have aa9:=nll hgl hfx.size;clear hm hme hxe hbx hfx o2 f2 ov oe;obtain ⟨HCL,HW1,HGX,HPK⟩:=fK hcl hW1 hgx hpk;clear hcl hW1 hgx hpk
   go_upto_region 5 with fail
   rw [←HW1.out,←HGX.out];clear HW1 HGX d0 d1 d2 d3 d4 d5 d6 d7 d8
   go_wp2_with fail
   refine HCL.out.mono ?_;rintro e w5 ⟨A6,c6,rfl,o5,f5⟩;obtain ⟨o6,y6,v6,z6⟩:=HPK.out _ f5 (.slice A6 es.length c6) o5;have T9:=O o6;have arx:=nll aa9 f5.size;clear o6 o5 f5 HPK HCL F1
   go_wp2_with fail
   go_roundw
   case rel=>exact ⟨k+1,by omega,by go_num,T9.out⟩
   case measure=>simp [intOf];omega
  ·obtain rfl:k=L:=by omega
   have b1:decide (k<k)=false:=by simp
   have T9:=O (hrel.done HL.out HLV.out);clear hrel
   go_wp2_with fail
   go_ret
   exact T9.out
set_option maxHeartbeats 1000000 in
theorem ank (h:QAt w lab z pv q n):Calls Tryz.prog 69 #[.pointer (some ⟨z,0,none⟩)] w (ae2 w q.net):=by
 obtain ⟨Ar,cr,NV,DV,vs,h1,h2,h3,h4⟩:=h.mem;obtain ⟨A,c,rfl,-⟩:=h3.own.form;have hc:=tH h3 h.ok.net (fun m hm=>(h.ok.msgs m hm).few);have z1:w.cell? ⟨z,1,none⟩=some (.slice A q.net.length c):=h1.cell 1;have hzl:=h.lt z 0 h.z0;clear h h1 h2 h3 h4;generalize q.net=L at*;obtain ⟨N,hN⟩:∃N,N=L.length:=⟨_,rfl⟩;unfold ae2 at*;simp only [←hN] at*;have HC:=O hc;clear hc
 go_in
 go_wp2_with fail
 refine HC.out.mono ?_;rintro e w1 ⟨A4,c4,Gs,Ge,vs',rfl,o4⟩;have O4:=O o4;clear o4
 go_wp2_with fail
 go_ret
 exact ⟨A4,c4,Gs,Ge,vs',rfl,O4.out⟩
end
end
theorem oH (n:Int)(w:World):
  Calls Tryz.prog 58 #[.int .i64 n] w fun e w' =>e= .returned (bE (n % 1000)).v∧∃c,w' =w.alloc c:=by
 have hm:=fun W=>dO n 1000 W dcd dcd;unfold bE En.v;revert hm;generalize n % 1000=m;intro hm;have HM:=O hm;clear hm
 go_in
 go_wp2_with fail
 refine (HM.out _).mono ?_;rintro e w1 ⟨rfl,rfl⟩
 go_wp2_with fail
 refine bodyPost_ret (v:= .agg _) (by simp [results,Tryz.results58,go_sem]) rfl ⟨rfl,?_⟩;exact ⟨_,rfl⟩
theorem aal (n:Int)(w:World):
  Calls Tryz.prog 58 #[.int .i64 n] w fun e w' =>e= .returned (bE (n % 1000)).v∧Fr No w w' :=by
 refine (oH n w).mono ?_;rintro e w' ⟨rfl,c,rfl⟩;exact ⟨rfl,aj _ _⟩
theorem ac7 (n:Int)(w:World):∃k:Nat,0<k∧k≤5∧k % 2=1∧Calls Tryz.prog 21 #[.int .i64 n] w fun e w' =>e= .returned (.int .i64 (k:Int))∧w=w' :=by
 have hm:=fun W=>dO n 3 W dcd dcd;obtain ⟨m,hm0,hm3⟩:∃m:Nat,n % 3=(m:Int)∧m<3:=⟨(n % 3).toNat,by omega,by omega⟩;refine ⟨2*m+1,by omega,by omega,by omega,?_⟩;rw [hm0] at hm;clear hm0;have HM:=O hm;clear hm
 go_in
 go_wp2_with fail
 refine (HM.out _).mono ?_;rintro e w1 ⟨rfl,rfl⟩
 go_wp2_with fail
 go_ret
 exact ⟨by go_num,rfl⟩
section
section
variable {w w' :World}{lab lab' :Nat→Option Nat}{z n m:Nat}{pv:Nat→Nat}{q q1:Qs}{F:Nat→Prop}
theorem pF {rs:Nat→Rs}{k:Nat}(h:(rs k).role=3)(h2:gX rs k<0∨(rs (gX rs k).toNat).js.term<(rs k).js.term):gX rs (k+1)=k:=by
 simp only [gX];rw [if_pos ⟨h,h2⟩]
theorem nP {rs:Nat→Rs}{k:Nat}(h:(rs k).role=3→¬(gX rs k<0∨(rs (gX rs k).toNat).js.term<(rs k).js.term)):gX rs (k+1)=gX rs k:=by
 simp only [gX];rw [if_neg fun hh=>h hh.1 hh.2]
theorem yP (h:QAt w lab z pv q n):Calls Tryz.prog 60 #[.pointer (some ⟨z,0,none⟩)] w fun e w' =>e= .returned (.int .i64 (gX q.rs q.n))∧Fr No w w' :=by
 have ai0:=fun W (hf:Fr No w W) i (hi:i<q.n)=>vO ((h.ak hf).jN i hi);have aiy:=fun W (hf:Fr No w W) i (hi:i<q.n)=>iq ((h.ak hf).jN i hi).rj;have h5:=h.ok.five;have hzl:=h.lt z 0 h.z0;obtain ⟨br,cr,hnc,hcm,hr⟩:=h.row;obtain ⟨z0,-⟩:=hr w (Fr.refl _ _);unfold maxLen at hcm;obtain ⟨N,hN⟩:∃N,N=q.n:=⟨_,rfl⟩;rw [←hN] at ai0 aiy h5 hr z0 hnc ⊢;clear h hN;obtain ⟨aou,oP,HR⟩:=bP ai0 aiy hr;clear ai0 aiy hr
 go_in
 go_wp2_with fail
 go_loopw [3,11] (fun b i wr=>∃k:Nat,k≤N∧i= .int .i64 k∧b= .int .i64 (gX q.rs k)∧Fr No w wr) (fun _ i _=>N-(intOf i).toNat)
 case atStart=>exact ⟨0,Nat.zero_le _,rfl,rfl,Fr.refl _ _⟩
 case round=>
  obtain ⟨k,hk,rfl,rfl,hf⟩:=hrel
  by_cases hlt:k<N
  ·have b1:decide (k<N)=true:=decide_eq_true hlt
   have b2:decide ((k:Int)<(N:Int))=true:=dtt;have hk2:(k:Int)<(N:Int):=by omega
   obtain ⟨z1,cr1⟩:=HR.out wr hf;have ck:=cr1 k hlt;have hro:=fun W hf=>aou.out W hf k hlt;have htk:=fun W hf=>oP.out W hf k hlt
   rcases qE q.rs k with hl|⟨hl0,hl1⟩
   ·by_cases h3:(q.rs k).role=3
    ·rw [h3] at hro
     have hy:=pF (rs:=q.rs) (k:=k) h3 (.inl oy);rw [hl];clear cr1 hl;obtain ⟨HRO,HF,HY⟩:=bP hro hf hy;clear hro hf hy
     go_wp2_with fail
     go_quiet ((go_at_call 36;exact aI (HRO.out _ (HF.out.drewN _))))
     go_wp2_with fail
     go_roundw
     case rel=>exact ⟨k+1,by omega,by go_num,by rw [HY.out],HF.out.drewN _⟩
     case measure=>simp [intOf];omega
    ·have g1:((q.rs k).role == 3)=false:=by simpa using h3
     have hy:=nP (rs:=q.rs) (k:=k) (fun hh=>absurd hh h3);rw [hl] at hy ⊢;clear cr1 hl h3;obtain ⟨HRO,HF,HY⟩:=bP hro hf hy;clear hro hf hy
     go_wp2_with fail
     go_quiet ((go_at_call 36;exact aI (HRO.out _ (HF.out.drewN _))))
     go_wp2_with fail
     go_roundw
     case rel=>exact ⟨k+1,by omega,by go_num,by rw [HY.out],HF.out.drewN _⟩
     case measure=>simp [intOf];omega
   ·obtain ⟨b,hb⟩:∃b:Nat,gX q.rs k=(b:Int):=⟨_,(Int.toNat_of_nonneg hl0).symm⟩
    have hbN:b<N:=by omega
    have ar5:(b:Int)<(N:Int):=by omega
    have cb:=cr1 b hbN;have htb:=fun W hf=>oP.out W hf b hbN;have n0:decide ((b:Int)<0)=false:=dff
    by_cases h3:(q.rs k).role=3
    ·rw [h3] at hro
     by_cases ht:(q.rs b).js.term<(q.rs k).js.term
     ·have hy:=pF (rs:=q.rs) (k:=k) h3 (.inr (by rw [hb];exact ht))
      have g2:decide ((q.rs b).js.term<(q.rs k).js.term)=true:=decide_eq_true ht;rw [hb];clear cr1 hl0 hl1 hb ht;generalize (q.rs b).js.term=TB at*;generalize (q.rs k).js.term=TK at*;obtain ⟨HRO,HF,HY,HTK,HTB⟩:=jr hro hf hy htk htb;clear hro hf hy htk htb
      go_wp2_with fail
      go_quiet (first
       |(go_at_call 36;exact aI (HRO.out _ (HF.out.drewN _)))
       |(go_at_call 12;exact aI (HTK.out _ (HF.out.drewN _)))
       |(go_at_call 12;exact aI (HTB.out _ (HF.out.drewN _))))
      go_wp2_with fail
      go_roundw
      case rel=>exact ⟨k+1,by omega,by go_num,by rw [HY.out],HF.out.drewN _⟩
      case measure=>simp [intOf];omega
     ·have hy:=nP (rs:=q.rs) (k:=k) (fun _=>by rw [hb];simp only [Int.toNat_natCast];omega)
      have g2:decide ((q.rs b).js.term<(q.rs k).js.term)=false:=decide_eq_false ht;rw [hb] at hy ⊢;clear cr1 hl0 hl1 hb ht;generalize (q.rs b).js.term=TB at*;generalize (q.rs k).js.term=TK at*;obtain ⟨HRO,HF,HY,HTK,HTB⟩:=jr hro hf hy htk htb;clear hro hf hy htk htb
      go_wp2_with fail
      go_quiet (first
       |(go_at_call 36;exact aI (HRO.out _ (HF.out.drewN _)))
       |(go_at_call 12;exact aI (HTK.out _ (HF.out.drewN _)))
       |(go_at_call 12;exact aI (HTB.out _ (HF.out.drewN _))))
      go_wp2_with fail
      go_roundw
      case rel=>exact ⟨k+1,by omega,by go_num,by rw [HY.out],HF.out.drewN _⟩
      case measure=>simp [intOf];omega
    ·have g1:((q.rs k).role == 3)=false:=by simpa using h3
     have hy:=nP (rs:=q.rs) (k:=k) (fun hh=>absurd hh h3);rw [hb] at hy ⊢;clear cr1 hl0 hl1 hb h3;obtain ⟨HRO,HF,HY⟩:=bP hro hf hy;clear hro hf hy
     go_wp2_with fail
     go_quiet ((go_at_call 36;exact aI (HRO.out _ (HF.out.drewN _))))
     go_wp2_with fail
     go_roundw
     case rel=>exact ⟨k+1,by omega,by go_num,by rw [HY.out],HF.out.drewN _⟩
     case measure=>simp [intOf];omega
  ·obtain rfl:k=N:=by omega
   have b1:decide (k<k)=false:=by simp
   have HF:=O hf
   go_wp2_with fail
   go_ret
   exact ⟨rfl,HF.out⟩
end
end
section
theorem ad8 (e f:En)(W:World):(binOp .neq dR e.v f.v).run Tryz.prog W= .ok (.bool (!decide (e=f))) W:=by
 have h:=qP e f 9998 W;unfold En.v at*;simp only [binOp]
 simp [Op.equal,Op.maxDepth,h]
theorem Rd.amc {w:World}{A:Option Addr}{xs:List En}(h:Rd w w.heap.size A (gV xs)){i:Nat}(hi:i<xs.length):
  ∃b off x,A=some ⟨b,off,none⟩∧xs[i]? =some x∧∀W,Fr No w W→(W.cell? ⟨b,off+i*9,none⟩=some (.int .i64 x.kind)∧W.cell? ⟨b,off+i*9+1,none⟩=some (.int .i64 x.tick)∧W.cell? ⟨b,off+i*9+2,none⟩=some (.int .i64 x.aS)∧W.cell? ⟨b,off+i*9+3,none⟩=some (.int .i64 x.cell)∧W.cell? ⟨b,off+i*9+4,none⟩=some (.int .i64 x.other)∧W.cell? ⟨b,off+i*9+5,none⟩=some (.int .i64 x.epoch)∧W.cell? ⟨b,off+i*9+6,none⟩=some (.int .i64 x.from_)∧W.cell? ⟨b,off+i*9+7,none⟩=some (.int .i64 x.bA)∧W.cell? ⟨b,off+i*9+8,none⟩=some (.int .i64 x.n)):=by
 have hl:=uL xs;obtain ⟨b,off,rfl,hb,hc⟩:=h.at_ oy;obtain ⟨x,hx⟩:∃x,xs[i]? =some x:=⟨_,List.getElem?_eq_getElem hi⟩;refine ⟨b,off,x,rfl,hx,fun W hW=> ?_⟩;have e:=fun j (hj:j<9)=>((hW.cell (p:=⟨b,off+(i*9+j),none⟩) hb id).trans (by rw [hc (i*9+j) oy,←List.getElem?_eq_getElem,agm xs i j x hx hj]):W.cell? ⟨b,off+(i*9+j),none⟩=x.cells[j]?);exact ⟨e 0 oy,e 1 oy,e 2 oy,e 3 oy,e 4 oy,e 5 oy,e 6 oy,e 7 oy,e 8 oy⟩
theorem uZ {xs ys:List En}{k:Nat}{x:En}(h:xs.take k=ys.take k)(hx:xs[k]? =some x)(hy:ys[k]? =some x):xs.take (k+1)=ys.take (k+1):=by
 rw [List.take_add_one,List.take_add_one,h,hx,hy]
section
variable {w w' :World}{F G H:Nat→Prop}
set_option maxHeartbeats 2000000 in
theorem vv {A B:Option Addr}{c d:Nat}{xs ys:List En}(hA:Rd w w.heap.size A (gV xs))(hB:Rd w w.heap.size B (gV ys))(hM2:xs.length≤c)(hM:c≤maxLen)(hM4:ys.length≤d)(hM3:d≤maxLen):
  Calls Tryz.prog 71 #[.slice A xs.length c,.slice B ys.length d] w fun e w' =>e= .returned (.bool (decide (xs=ys)))∧Fr No w w' :=by
 unfold maxLen at hM hM3;have ha:=fun i hi=>hA.amc (i:=i) hi;have hb:=fun i hi=>hB.amc (i:=i) hi
 by_cases hl:xs.length=ys.length
 ·have t1:(xs.length != ys.length)=false:=by simpa using hl
  have t2:((xs.length:Int) != (ys.length:Int))=false:=by simp;omega
  clear hA hB;generalize hY:decide (xs=ys)=Y at*;rw [←hl] at hM4 t1 t2 ⊢;obtain ⟨HA,HB,HY,HL⟩:=fK ha hb hY hl;clear ha hb hY hl
  go_in
  go_wp2_with fail
  go_loopw [5] (fun i wr=>∃k:Nat,k≤xs.length∧i= .int .i64 k∧xs.take k=ys.take k∧Fr No w wr) (fun i _=>xs.length-(intOf i).toNat)
  case atStart=>exact ⟨0,Nat.zero_le _,rfl,rfl,Fr.refl _ _⟩
  case round=>
   obtain ⟨k,hk,rfl,htk,hf⟩:=hrel
   by_cases hlt:k<xs.length
   ·have b1:decide (k<xs.length)=true:=by simpa using hlt
    have b2:decide ((k:Int)<(xs.length:Int))=true:=by simp;omega
    have hlt2:(k:Int)<(xs.length:Int):=by omega
    obtain ⟨b,off,x,rfl,hx,hxc⟩:=HA.out k hlt;obtain ⟨b',off',y,rfl,hy,hyc⟩:=HB.out k (by rw [←HL.out];exact hlt);obtain ⟨c0,c1,c2,c3,c4,c5,c6,c7,c8⟩:=hxc wr hf;obtain ⟨d0,d1,d2,d3,d4,d5,d6,d7,d8⟩:=hyc wr hf
    by_cases he:x=y
    ·subst he
     have hN:=fun W=>ad8 x x W;simp only [decide_true,Bool.not_true] at hN;have hsu:=uZ htk hx hy;obtain ⟨kd,tick,te,ce,ot,ep,fr,un,nn⟩:=x;unfold En.v at hN;simp only at*;have hG:=fun (u v:Operand) (V:World)=>qO .neq u v #[.int .i64 kd,.int .i64 tick,.int .i64 te,.int .i64 ce,.int .i64 ot,.int .i64 ep,.int .i64 fr,.int .i64 un,.int .i64 nn] #[.int .i64 kd,.int .i64 tick,.int .i64 te,.int .i64 ce,.int .i64 ot,.int .i64 ep,.int .i64 fr,.int .i64 un,.int .i64 nn] V;clear hxc hyc hx hy htk;obtain ⟨HF,HSU⟩:=aO hf hsu;clear hf hsu
     go_wp2_with fail
     go_quiet (fail)
     go_wp2_with fail
     go_roundw
     case rel=>exact ⟨k+1,by omega,by go_num,HSU.out,HF.out.drewN _⟩
     case measure=>simp [intOf];omega
    ·have hN:=fun W=>ad8 x y W
     rw [show (decide (x=y))=false from by simpa using he] at hN;simp only [Bool.not_false] at hN;have hYf:false=Y:=by
      rw [←HY.out]
      symm
      rw [decide_eq_false_iff_not];intro hh;rw [hh] at hx;rw [hx] at hy;exact he (Option.some.inj hy)
     obtain ⟨kd,tick,te,ce,ot,ep,fr,un,nn⟩:=x;obtain ⟨kd',iY,te',ce',ot',ep',fr',un',nn'⟩:=y;unfold En.v at hN;simp only at*;have hG:=fun (u v:Operand) (V:World)=>qO .neq u v #[.int .i64 kd,.int .i64 tick,.int .i64 te,.int .i64 ce,.int .i64 ot,.int .i64 ep,.int .i64 fr,.int .i64 un,.int .i64 nn] #[.int .i64 kd',.int .i64 iY,.int .i64 te',.int .i64 ce',.int .i64 ot',.int .i64 ep',.int .i64 fr',.int .i64 un',.int .i64 nn'] V;clear hxc hyc hx hy htk he;obtain ⟨HF,HYF⟩:=aO hf hYf;clear hf hYf
     go_wp2_with fail
     go_quiet (fail)
     go_wp2_with fail
     go_ret
     exact ⟨au HYF.out,HF.out.drewN _⟩
   ·obtain rfl:k=xs.length:=by omega
    have b1:decide (xs.length<xs.length)=false:=by simp
    have hYt:true=Y:=by
     rw [←HY.out]
     symm
     rw [decide_eq_true_iff];have h2:=HL.out;rw [List.take_length,h2,List.take_length] at htk;exact htk
    clear htk;obtain ⟨HF,HYT⟩:=aO hf hYt;clear hf hYt
    go_wp2_with fail
    go_ret
    exact ⟨au HYT.out,HF.out⟩
 ·have hY:decide (xs=ys)=false:=by
   rw [decide_eq_false_iff_not];intro hh;exact hl (by rw [hh])
  rw [hY];have t1:(xs.length != ys.length)=true:=by simpa using hl
  have t2:((xs.length:Int) != (ys.length:Int))=true:=by simp;omega
  clear hY hl ha hb hA hB
  go_in
  go_wp2_with fail
  go_ret
  exact ⟨rfl,Fr.refl _ _⟩
end
end
end Go.Proofs.YtjnfmfmglehmbaaGreat
