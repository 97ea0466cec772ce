/-
  A raw act that came in; an act in a block of its own.
-/
import Derived.Test.YtjnfmfmglehmbaaGreatQ33
namespace Go.Proofs.YtjnfmfmglehmbaaGreat
open Go.ChangeShapes Go.WideShapes Go.ChangeAt Go.RowKit
set_option linter.unusedVariables false
set_option maxRecDepth 100000
set_option maxHeartbeats 4000000
def In_nact (w:World)(v:Value):Prop:=∃kind who num e,v=gZ kind who num e∧En.ok e
def rU (W6:World)(kind who num:Int)(e:En)(v:Value)(W:World):Prop:=∃g7,v= .pointer (some ⟨g7,0,none⟩)∧W6.heap.size≤g7∧Blk W g7 fE (eU kind who num e).toArray∧Fr No W6 W
abbrev ajn:Array Value:= #[.int .i64 0,.int .i64 0,.int .i64 0,.int .i64 0,.int .i64 0,.int .i64 0,.int .i64 0,.int .i64 0,.int .i64 0,.int .i64 0,.int .i64 0,.int .i64 0]
theorem rU.mkA {W6 Z:World}(kind who num:Int)(e:En)(hf:Fr No W6 Z):rU W6 kind who num e (.pointer (some ⟨Z.heap.size,0,none⟩)) (Z.alloc (.cells #[.int .i64 kind,.int .i64 who,.int .i64 num,.int .i64 e.kind,.int .i64 e.tick,.int .i64 e.aS,.int .i64 e.cell,.int .i64 e.other,.int .i64 e.epoch,.int .i64 e.from_,.int .i64 e.bA,.int .i64 e.n] fE)):=
 ⟨_,rfl,hf.size,Blk.new _ _ _,hf.alloc _⟩
theorem rU.mkF {W6 Z:World}{g7:Nat}(kind who num:Int)(e:En)(hb:Blk Z g7 fE ajn)(hf:Fr No W6 Z)(hg:W6.heap.size≤g7):rU W6 kind who num e (.pointer (some ⟨g7,0,none⟩)) (World.setCell (World.setCell (World.setCell (World.setCell (World.setCell (World.setCell (World.setCell (World.setCell (World.setCell (World.setCell (World.setCell (World.setCell Z ⟨g7,0,none⟩ (.int .i64 kind)) ⟨g7,1,none⟩ (.int .i64 who)) ⟨g7,2,none⟩ (.int .i64 num)) ⟨g7,3,none⟩ (.int .i64 e.kind)) ⟨g7,4,none⟩ (.int .i64 e.tick)) ⟨g7,5,none⟩ (.int .i64 e.aS)) ⟨g7,6,none⟩ (.int .i64 e.cell)) ⟨g7,7,none⟩ (.int .i64 e.other)) ⟨g7,8,none⟩ (.int .i64 e.epoch)) ⟨g7,9,none⟩ (.int .i64 e.from_)) ⟨g7,10,none⟩ (.int .i64 e.bA)) ⟨g7,11,none⟩ (.int .i64 e.n)):=
 ⟨g7,rfl,hg,iC kind who num e hb,eO kind who num e hf hg⟩
section
structure qX (w0:World) (A:Option Addr) (l:List oq):Prop where
 most:l.length≤maxLen
 each:∀i,i<l.length→∃b off a,A=some ⟨b,off,none⟩∧l[i]? =some a∧a.ok∧∀w' :World,Fr No w0 w'→w'.cell? ⟨b,off+i*3,none⟩=some (.int .i64 a.which)∧w'.cell? ⟨b,off+i*3+1,none⟩=some (.int .i64 a.a)∧w'.cell? ⟨b,off+i*3+2,none⟩=some (.int .i64 a.b)
theorem rA.steps {w:World}{A:Option Addr}{len cap:Nat}{acts:List oq}(h:rA w A len cap acts):qX w A acts:=
 ⟨by rw [h.count];exact h.most,fun i hi=>h.at2 (by rw [←h.count];exact hi)⟩
theorem qX.one {w0:World}{A:Option Addr}{l:List oq}(h:qX w0 A l){i:Nat}(hi:i<l.length):∃b off a,A=some ⟨b,off,none⟩∧l[i]? =some a∧qX w0 (some ⟨b,off+i*3,none⟩) [a]:=by
 obtain ⟨b,off,a,hA,ha,hok,hc⟩:=h.each i hi;refine ⟨b,off,a,hA,ha,by simp [maxLen],fun j hj=> ?_⟩;rw [List.length_singleton] at hj;obtain rfl:j=0:=by omega
 exact ⟨b,off+i*3,a,rfl,rfl,hok,hc⟩
theorem afb {l:List oq}{k:Nat}{a:oq}(h:l[k]? =some a):l.take (k+1)=l.take k++[a]:=by
 rw [List.take_add_one,h]
 rfl
section
variable {w w' :World}{lab lab' :Nat→Option Nat}{z n m:Nat}{pv:Nat→Nat}{q q1:Qs}{F:Nat→Prop}
theorem QTo.ak {w0:World}(h:QTo w lab z pv q n w')(hf:Fr No w0 w)(hnew:∀b j,lab b=some j→w0.heap.size≤b):Fr No w0 w'∧∃lab',QAt w' lab' z pv q n∧(∀b j,lab' b=some j→w0.heap.size≤b)∧(∀b,b<w.heap.size→lab' b=lab b):=by
 obtain ⟨aZ,a1,b1,c1⟩:=h;refine ⟨hf.trans c1 fun b hb=> .inr ?_,aZ,a1,fun b j hb=> ?_,b1⟩
 ·cases hlb:lab b with
  |none=>exact absurd hlb hb
  |some j=>exact hnew b j hlb
 ·rcases Nat.lt_or_ge b w.heap.size with hl|hl
  ·rw [b1 b hl] at hb
   exact hnew b j hb
  ·exact Nat.le_trans hf.size hl
def zK (w:World)(lab:Nat→Option Nat)(z:Nat)(pv:Nat→Nat)(q:Qs)(n:Nat)(l:List oq)(k:Nat)(wr:World):Prop:=∃q',iX q (l.take k) q'∧QTo w lab z pv q' (n+k*4000700000) wr
set_option maxHeartbeats 8000000 in
theorem afy {w0:World}{A:Option Addr}{c:Nat}{l:List oq}(h:QAt w lab z pv q n)(hnew:∀b j,lab b=some j→w0.heap.size≤b)(hf0:Fr No w0 w)(hl:qX w0 A l)(hsz:n+l.length*4000700000≤140000000000000):
  Calls Tryz.prog 30 #[.pointer (some ⟨z,0,none⟩),.slice A l.length c,.int .i64 (q.n:Int)] w fun e w' =>e= .returned (.tuple #[])∧∃q',iX q l q'∧QTo w lab z pv q' (n+l.length*4000700000) w' :=by
 have h5:=h.ok.five;have hp:=h.ok.pos;obtain ⟨N,hN⟩:∃N,N=q.n:=⟨_,rfl⟩;obtain ⟨L,hL⟩:∃L,L=l.length:=⟨_,rfl⟩;have hst:zK w lab z pv q n l 0 w:=⟨q,by rw [List.take_zero];exact .nil,by simpa using h.self⟩;have ai7:=hl.each;have hend:∀wr,zK w lab z pv q n l L wr→∃q',iX q l q'∧QTo w lab z pv q' (n+L*4000700000) wr:=by
  rintro wr ⟨q',h1,h2⟩;rw [hL,List.take_length] at h1;exact ⟨q',h1,h2⟩
 have aln:=h.lt;have hmo:=hl.most;unfold maxLen at hmo;rw [←hL] at ai7 hsz hmo ⊢;rw [←hN] at h5 hp ⊢;clear h hl hL;obtain ⟨apa,dZ,HST,nG,HF0,ao5,HN⟩:=nC ai7 hend hst hnew hf0 aln hN;clear ai7 hend hst hnew hf0 aln hN
 go_in
 go_wp2_with fail
 go_loopw [6] (fun i wr=>∃k:Nat,k≤L∧i= .int .i64 k∧zK w lab z pv q n l k wr) (fun i _=>L-(intOf i).toNat)
 case atStart=>exact ⟨0,Nat.zero_le _,rfl,HST.out⟩
 case round=>
  obtain ⟨k,hk,rfl,hrel⟩:=hrel
  by_cases hlt:k<L
  ·have b1:decide (k<L)=true:=decide_eq_true hlt
   have b2:decide ((k:Int)<(L:Int))=true:=dtt;have hk2:(k:Int)<(L:Int):=by omega
   obtain ⟨q',hp',hq'⟩:=hrel;have hfw:=(hq'.ak HF0.out nG.out).1;obtain ⟨aZ,hq,hl1,hfr⟩:=hq';have hn1:∀b j,aZ b=some j→w0.heap.size≤b:=fun b j hb=>by
    rcases Nat.lt_or_ge b w.heap.size with hh|hh
    ·rw [hl1 b hh] at hb
     exact nG.out b j hb
    ·exact Nat.le_trans HF0.out.size hh
   obtain ⟨b,off,a,rfl,ha,hok,hcells⟩:=apa.out k hlt;have hcw:=fun W (hf:Fr No wr W)=>hcells W (hfw.ah hf);obtain ⟨c0,c1,c2⟩:=hcw wr (Fr.refl _ _);have hN' :q'.n=N:=hp'.n.trans HN.out.symm;have hact:=fun W=>yA a.which a.a a.b N q'.net.length hp h5 hq.ok.net W;have agb:=fun W (hf:Fr No wr W)=>acy (hq.ak hf);have hdo:=fun W (hf:Fr No wr W)=>am3 (hq.ak hf) (dB a.which) (a.a % (N:Int)) (iI a.which a.b q'.net.length) (bE (a.b % 1000)) (xP a.b) oy;have hE:q'.act (dB a.which) (a.a % (N:Int)) (iI a.which a.b q'.net.length) (bE (a.b % 1000))=eX q' a:=by unfold eX;rw [hN']
   unfold uU at hdo;rw [hE] at hdo;have hafter:=fun W W' (hf:Fr No wr W) (h2:QTo W aZ z pv (eX q' a) (n+k*4000700000+700000) W')=>(show Fr No w0 W'∧QTo wr aZ z pv (eX q' a) (n+k*4000700000+700000) W' from (let t:=QTo.after hf hq.lt h2;⟨(t.ak hfw hn1).1,t⟩));have aqh:∀Q W',kC q' a Q→QTo wr aZ z pv Q (n+(k+1)*4000700000) W'→zK w lab z pv q n l (k+1) W' :=by
    intro Q W' hS hQ;exact ⟨Q,by rw [afb ha];exact .snoc _ _ _ _ hp' hS,hQ.from hl1 hfr⟩
   have ahp:∀v3,QTo wr aZ z pv (eX q' a) (n+k*4000700000+700000) v3→Calls Tryz.prog 57 #[.pointer (some ⟨z,0,none⟩),.int .i64 a.a] v3 fun e w' =>∃(k' :Nat) (Q:Qs),e= .returned (.int .i64 k')∧Flushes a.a (eX q' a) 0 Q k'∧QTo wr aZ z pv Q (n+(k+1)*4000700000) w' :=by
    rintro v3 ⟨ant,x1,x2,x3⟩;refine (xK x1 a.a oy).mono ?_;rintro e v4 ⟨k',Q,rfl,-,y1,y2⟩;exact ⟨k',Q,rfl,y1,(y2.more oy).from x2 x3⟩
   have hmore:∀v3,QTo wr aZ z pv (eX q' a) (n+k*4000700000+700000) v3→QTo wr aZ z pv (eX q' a) (n+(k+1)*4000700000) v3:=fun v3 x=>x.more oy;generalize hNL:q'.net.length=NL at*;generalize hSA:eX q' a=SA at*;generalize hXX:q'.jh (dB a.which) (a.a % (N:Int)) (iI a.which a.b NL) (bE (a.b % 1000))=XX at*;have hS5:a.b.tmod 5=0→∀Q k',Flushes a.a SA 0 Q k'→kC q' a Q:=fun hh Q k' hfl=>by
    unfold kC;rw [if_pos hh,hSA];exact ⟨k',hfl⟩
   have hS0:a.b.tmod 5≠0→kC q' a SA:=fun hh=>by
    unfold kC;rw [if_neg hh,hSA]
   clear hq hE ha hok hp' hN' hn1 hNL hSA hXX hl1 hfr;obtain ⟨oN,HCW,ahx,amt,HDO,ahw,anh,aey,aa5,HS5,HS0,HFW⟩:=gY hcells hcw hact agb hdo hafter aqh ahp hmore hS5 hS0 hfw;clear hcells hcw hact agb hdo hafter aqh ahp hmore hS5 hS0 hfw
   go_wp2_with fail
   have hd:=HCW.out wr.drew (Fr.refl _ _).drew
   go_region_held3 (fun V=>V.cell? ⟨b,off+k*3,none⟩=some (.int .i64 a.which)∧V.cell? ⟨b,off+k*3+1,none⟩=some (.int .i64 a.a)∧V.cell? ⟨b,off+k*3+2,none⟩=some (.int .i64 a.b)) (first|exact hd|exact k1|exact k2|exact k3|exact HCW.out _ frz) (first
    |(go_at_call 69;refine (amt.out _ frz).mono ?_;rintro e v1 ⟨A1,c1',rfl,f1'⟩;have F1:Fr No wr v1:=Fr.ah frz f1';have k1:=HCW.out v1 F1;clear f1')
    |(go_at_call 25;refine (ahx.out _).mono ?_;rintro e v2 ⟨rfl,f2'⟩;have F2:Fr No wr v2:=Fr.ah frz f2';have k2:=HCW.out v2 F2;clear f2')
    |(go_at_call 26;refine (HDO.out _ frz).mono ?_;rintro e v3 ⟨rfl,q3'⟩;obtain ⟨f3',D3'⟩:=ahw.out _ v3 frz q3';have k3:=oN.out v3 f3';have D3:=O D3';clear q3' f3' D3'))
   clear c0 c1 c2 hd k1 k2 HCW ahx amt HDO ahw;obtain ⟨c0,c1,c2⟩:=k3
   by_cases hm5:a.b.tmod 5=0
   ·have g5:(a.b.tmod 5 == 0)=true:=by simpa using hm5
    have hs:=O (HS5.out hm5);clear hm5 HS5 HS0
    go_wp2_with fail
    refine (aey.out _ D3.out).mono ?_;rintro e v4 ⟨k',Q,rfl,hfl,q4⟩;have T9:=O (anh.out Q v4 (hs.out Q k' hfl) q4);clear hfl q4 c0 c1 c2 aey anh aa5 D3
    go_wp2_with fail
    go_roundw
    case rel=>exact ⟨k+1,by omega,by go_num,T9.out⟩
    case measure=>simp [intOf];omega
   ·have g5:(a.b.tmod 5 == 0)=false:=by simpa using hm5
    have T9:=O (anh.out SA _ (HS0.out hm5) (aa5.out _ D3.out));clear hm5 HS5 HS0 aey anh aa5 D3
    go_wp2_with fail
    go_roundw
    case rel=>exact ⟨k+1,by omega,by go_num,T9.out⟩
    case measure=>simp [intOf];omega
  ·obtain rfl:k=L:=by omega
   have b1:decide (k<k)=false:=by simp
   have T9:=O (dZ.out _ hrel);clear hrel
   go_wp2_with fail
   go_end0
   exact ⟨rfl,T9.out⟩
end
end
theorem ae7:zeroE.ok:=by
 intro x hx;simp only [zeroE,En.l,List.mem_cons,List.not_mem_nil,or_false] at hx
 omega
set_option maxHeartbeats 8000000 in
theorem iO (w:World):Calls Tryz.prog 24 #[] w fun e w' =>e= .returned (.bool true)∧Fr No w w' :=by
 have hnew:=aik 3 w dcd dcd;have hnt:=fun W=>aal 4 W;rw [show (4:Int) % 1000=4 from by decide] at hnt;have hN:=fun W=>ajc (bE 4) (bE 4) W;simp only [decide_true] at hN;have hG:=fun (u v:Operand) (V:World)=>qO .eql u v #[.int .i64 16,.int .i64 0,.int .i64 (-1),.int .i64 (-1),.int .i64 (-1),.int .i64 0,.int .i64 0,.int .i64 0,.int .i64 4] #[.int .i64 16,.int .i64 0,.int .i64 (-1),.int .i64 (-1),.int .i64 (-1),.int .i64 0,.int .i64 0,.int .i64 0,.int .i64 4] V;have hnE:(bE 4).ok:=kR 4 dcd dcd;have hX1:(jJ 3).jh 1 0 0 zeroE=0:=rfl;obtain ⟨nG,HNE,HX1⟩:=bP hnew hnE hX1;clear hnew hnE hX1
 go_in
 go_wp2_with fail
 refine nG.out.mono ?_;rintro e w1 ⟨z,lab,pv,rfl,q1,n1,f1⟩;obtain ⟨Q1,N1,F1⟩:=bP q1 n1 f1;clear q1 n1 f1
 go_wp2_with fail
 refine (am3 Q1.out 1 0 0 zeroE ae7 oy).mono ?_;rintro e w2 ⟨rfl,t2⟩;rw [HX1.out];obtain ⟨f2,dG,q2,n2,-⟩:=QTo.ak t2 F1.out N1.out;clear Q1 N1 F1 t2;obtain ⟨Q2,N2,F2⟩:=bP q2 n2 f2;clear q2 n2 f2
 go_wp2_with fail
 refine (xK Q2.out 7 oy).mono ?_;rintro e w3 ⟨k3,qa,rfl,-,fl3,t3⟩;obtain ⟨f3,ant,q3,n3,-⟩:=QTo.ak t3 F2.out N2.out;obtain ⟨x2,hna,hnext⟩:=ael fl3;clear Q2 N2 F2 t3 fl3;obtain ⟨Q3,N3,F3,X2,fJ,HNT⟩:=lG q3 n3 f3 x2 hnext hnt;clear q3 n3 f3 x2 hnext hnt
 go_wp2_with fail
 refine (HNT.out _).mono ?_;rintro e w4 ⟨rfl,f4⟩;have q4:=Q3.out.ak f4;replace f4:=F3.out.ah f4;clear Q3 F3;obtain ⟨Q4,F4⟩:=aO q4 f4;clear q4 f4;unfold En.v bE
 go_wp2_with fail
 refine (am3 Q4.out 2 0 0 (bE 4) HNE.out oy).mono ?_;rintro e w5 ⟨rfl,t5⟩;rw [X2.out];obtain ⟨f5,atb,q5,n5,-⟩:=QTo.ak t5 F4.out N3.out;clear Q4 N3 F4 t5 X2;obtain ⟨Q5,N5,F5⟩:=bP q5 n5 f5;clear q5 n5 f5
 go_wp2_with fail
 refine (xK Q5.out 7 oy).mono ?_;rintro e w6 ⟨k6,qb,rfl,-,fl6,t6⟩;obtain ⟨f6,ata,q6,n6,-⟩:=QTo.ak t6 F5.out N5.out;obtain ⟨hl6,hd6,hn6⟩:=fJ.out qb k6 fl6;have hcm:=qh q6;rw [hd6] at hcm;have hld:=fun W (hf:Fr No w6 W)=>yP (q6.ak hf);rw [hl6] at hld;clear Q5 N5 F5 t6 fl6 q6 hl6 hd6 fJ n6;obtain ⟨HCM,HLD,F6⟩:=bP hcm hld f6;clear hcm hld f6
 go_wp2_with fail
 refine HCM.out.mono ?_;rintro e w7 ⟨A,c,rfl,o7,f7⟩;have hca:=o7.cap;obtain ⟨g,rfl,hgl,-,hgc⟩:=o7.head dcd;have hcw:=fun W (hf:Fr No w7 W)=>(⟨(hf.cell (p:=⟨g,0,none⟩) hgl fun h=>h).trans (hgc 0 dcd),(hf.cell (p:=⟨g,1,none⟩) hgl fun h=>h).trans (hgc 1 dcd),(hf.cell (p:=⟨g,2,none⟩) hgl fun h=>h).trans (hgc 2 dcd),(hf.cell (p:=⟨g,3,none⟩) hgl fun h=>h).trans (hgc 3 dcd),(hf.cell (p:=⟨g,4,none⟩) hgl fun h=>h).trans (hgc 4 dcd),(hf.cell (p:=⟨g,5,none⟩) hgl fun h=>h).trans (hgc 5 dcd),(hf.cell (p:=⟨g,6,none⟩) hgl fun h=>h).trans (hgc 6 dcd),(hf.cell (p:=⟨g,7,none⟩) hgl fun h=>h).trans (hgc 7 dcd),(hf.cell (p:=⟨g,8,none⟩) hgl fun h=>h).trans (hgc 8 dcd)⟩:W.cell? ⟨g,0,none⟩=some (.int .i64 16)∧W.cell? ⟨g,1,none⟩=some (.int .i64 0)∧W.cell? ⟨g,2,none⟩=some (.int .i64 (-1))∧W.cell? ⟨g,3,none⟩=some (.int .i64 (-1))∧W.cell? ⟨g,4,none⟩=some (.int .i64 (-1))∧W.cell? ⟨g,5,none⟩=some (.int .i64 0)∧W.cell? ⟨g,6,none⟩=some (.int .i64 0)∧W.cell? ⟨g,7,none⟩=some (.int .i64 0)∧W.cell? ⟨g,8,none⟩=some (.int .i64 4));have hnt:=HNT.out;have hlw:=fun W (hf:Fr No w7 W)=>HLD.out W (f7.ah hf);unfold bE En.v at hnt hN;have F7:=O (F6.out.ah f7);have hd:=hcw w7.drew (Fr.refl _ _).drew;clear o7 hgc HLD HCM F6 HNT f7 hn6 hna;obtain ⟨HCW,HLW,HNT⟩:=bP hcw hlw hnt;clear hcw hlw hnt
 go_wp2_with fail
 go_region_held3 (fun W=>W.cell? ⟨g,0,none⟩=some (.int .i64 16)∧W.cell? ⟨g,1,none⟩=some (.int .i64 0)∧W.cell? ⟨g,2,none⟩=some (.int .i64 (-1))∧W.cell? ⟨g,3,none⟩=some (.int .i64 (-1))∧W.cell? ⟨g,4,none⟩=some (.int .i64 (-1))∧W.cell? ⟨g,5,none⟩=some (.int .i64 0)∧W.cell? ⟨g,6,none⟩=some (.int .i64 0)∧W.cell? ⟨g,7,none⟩=some (.int .i64 0)∧W.cell? ⟨g,8,none⟩=some (.int .i64 4)) (first|exact hd|exact HCW.out _ frz) (first
  |(go_at_call 60;refine (HLW.out _ frz).mono ?_;rintro e v1 ⟨rfl,f1'⟩;have F1:Fr No w7 v1:=Fr.ah frz f1';clear f1')
  |(go_at_call 58;refine (HNT.out _).mono ?_;rintro e v2 ⟨rfl,f2'⟩;have F2:Fr No w7 v2:=Fr.ah frz f2';clear f2'))
 all_goals
  go_wp2_with fail
  go_ret
  exact ⟨rfl,F7.out.ah frz⟩
end Go.Proofs.YtjnfmfmglehmbaaGreat
