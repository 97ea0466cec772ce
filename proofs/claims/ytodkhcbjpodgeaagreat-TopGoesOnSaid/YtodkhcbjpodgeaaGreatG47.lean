/-
  Behind a failover: the words.
-/
import Derived.Test.YtodkhcbjpodgeaaGreatG46
import Derived.Test.YtodkhcbjpodgeaaGreatG44
namespace Go.Proofs.YtodkhcbjpodgeaaGreat
open Go.ChangeShapes Go.WideShapes Go.ChangeAt Go.RowKit
set_option linter.unusedVariables false
set_option maxRecDepth 100000
set_option maxHeartbeats 4000000
set_option linter.unusedSimpArgs false
set_option linter.unusedSectionVars false
variable {w w' :World}{lab lab' :Nat→Option Nat}{M:PM}{P:Pr}{F G:Nat→Prop}
theorem fO {g g' :Nat}{t t' :TypeId}{cs cs' :Array Value}(h:Blk w g t cs)(h' :Blk w g' t' cs')(hne:t≠t'):g≠g' :=by
 rintro rfl;unfold Blk at h h';rw [h] at h';injection h' with h';injection h' with _ h';exact hne h'
def za (M:PM)(q l f0 rc rf rs rh:Nat):PM:=⟨q,M.cp 0,l,fun i=>if i=0 then M.hp else M.cp 1,fun i=>if i=0 then f0 else M.fp 1,rc,2,rf,2,rs,2,rh,2⟩
set_option maxHeartbeats 8000000 in
theorem ace {w1 W:World}(A:eH w1 lab M P){q rc rf f0 rs rh l n1 n2 n3:Nat}{H:Nat→Prop}{D:DataW Unit}(f:Fr (aT lab 10) w1 W)
  (hq:w1.heap.size≤q∧q<n1) (hrc:w1.heap.size≤rc∧rc<n1) (hrf:w1.heap.size≤rf∧rf<n1) (hf0:w1.heap.size≤f0∧f0<n1) (hrs:w1.heap.size≤rs∧rs<n1) (hrh:w1.heap.size≤rh∧rh<n1) (h12:n1≤n2) (h23:n2≤n3) (hn3:n3≤W.heap.size)
  (hH:∀i,H i→lab i=some 10∨(n2≤i∧i<n3)) (bq:Blk W q fU (prC (za M q l f0 rc rf rs rh) (je P)).toArray) (home:aM W H (M.cp 0) {(P.fo 0).c with ws:=[⟨1,2,0,0,1000⟩]})
  (lead:aL W (fun i=>n1≤i∧i<n2) l 2 (-1) (je P).ak D) (hr:zC D (je P).pg)
  (brc:Blk W rc qL #[pp M.hp,pp (M.cp 1)]) (brf:Blk W rf pG #[pp f0,pp (M.fp 1)]) (bf0:Blk W f0 TFw #[pp M.hp,.int .i64 0,.int .i64 0]) (brs:Blk W rs aj3 #[.slice none 0 0,.slice none 0 0]) (brh:Blk W rh aj4 #[.slice none 0 0,.slice none 0 0]):
  ∃lab',eH W lab' (za M q l f0 rc rf rs rh) (je P)∧∀b j,lab' b=some j→(∃i,lab b=some i)∨w1.heap.size≤b:=by
 have x1:=fO bq brc dcd;have x2:=fO bq brf dcd;have x3:=fO bq bf0 dcd;have x4:=fO bq brs dcd;have x5:=fO bq brh dcd;have x6:=fO brc brf dcd;have x7:=fO brc bf0 dcd;have x8:=fO brc brs dcd;have x9:=fO brc brh dcd;have x10:=fO brf bf0 dcd;have x11:=fO brf brs dcd;have x12:=fO brf brh dcd;have x13:=fO bf0 brs dcd;have x14:=fO bf0 brh dcd;have x15:=fO brs brh dcd;have hl:∀i j,lab i=some j→(lab i).getD 100=j∧i<w1.heap.size:=fun i j h=>⟨by rw [h];rfl,A.lt i j h⟩;have hN:∀k i,((k=0∧i=q)∨(k=1∧H i)∨(k=2∧n1≤i∧i<n2)∨(k=3∧i=rc)∨(k=4∧i=rf)∨(k=5∧i=rs)∨(k=6∧i=rh)∨(k=10∧lab i=some 1)∨(k=11∧lab i=some 11)∨(k=20∧i=f0)∨(k=21∧lab i=some 21))→
   (k=0∧i=q)∨(k=1∧(((lab i).getD 100=10∧i<w1.heap.size)∨(n2≤i∧i<n3)))∨(k=2∧n1≤i∧i<n2)∨(k=3∧i=rc)∨(k=4∧i=rf)∨(k=5∧i=rs)∨(k=6∧i=rh)∨(k=10∧(lab i).getD 100=1∧i<w1.heap.size)∨(k=11∧(lab i).getD 100=11∧i<w1.heap.size)∨(k=20∧i=f0)∨(k=21∧(lab i).getD 100=21∧i<w1.heap.size):=fun k i h=>by
  rcases h with h|⟨e,h⟩|h|h|h|h|h|⟨e,h⟩|⟨e,h⟩|h|⟨e,h⟩
  ·exact .inl h
  ·exact .inr (.inl ⟨e,(hH i h).elim (fun h=> .inl (hl i _ h)) .inr⟩)
  ·exact .inr (.inr (.inl h))
  ·exact .inr (.inr (.inr (.inl h)))
  ·exact .inr (.inr (.inr (.inr (.inl h))))
  ·exact .inr (.inr (.inr (.inr (.inr (.inl h)))))
  ·exact .inr (.inr (.inr (.inr (.inr (.inr (.inl h))))))
  ·exact .inr (.inr (.inr (.inr (.inr (.inr (.inr (.inl ⟨e,hl i _ h⟩)))))))
  ·exact .inr (.inr (.inr (.inr (.inr (.inr (.inr (.inr (.inl ⟨e,hl i _ h⟩))))))))
  ·exact .inr (.inr (.inr (.inr (.inr (.inr (.inr (.inr (.inr (.inl h)))))))))
  ·exact .inr (.inr (.inr (.inr (.inr (.inr (.inr (.inr (.inr (.inr ⟨e,hl i _ h⟩)))))))))
 have hsz:=f.size;obtain ⟨lab',hP,hlb⟩:=eH.make (w:=W) (M:=za M q l f0 rc rf rs rh) (P:=je P)
  (fun k i=>(k=0∧i=q)∨(k=1∧H i)∨(k=2∧n1≤i∧i<n2)∨(k=3∧i=rc)∨(k=4∧i=rf)∨(k=5∧i=rs)∨(k=6∧i=rh)∨(k=10∧lab i=some 1)∨(k=11∧lab i=some 11)∨(k=20∧i=f0)∨(k=21∧lab i=some 21))
  (fun i k l h h' =>by
   rcases hN _ _ h with h|h|h|h|h|h|h|h|h|h|h
   all_goals
    rcases hN _ _ h' with h' |h' |h' |h' |h' |h' |h' |h' |h' |h' |h'
    all_goals omega)
  (fun k i h=>by rcases hN _ _ h with h|h|h|h|h|h|h|h|h|h|h<;>omega)
  (.inl ⟨rfl,rfl⟩) bq ⟨Nat.le_refl _,(show 2≤maxLen from by unfold maxLen;omega),Nat.le_refl _,(show 2≤maxLen from by unfold maxLen;omega),Nat.le_refl _,(show 2≤maxLen from by unfold maxLen;omega),Nat.le_refl _,(show 2≤maxLen from by unfold maxLen;omega)⟩
  (home.wide (fun i hi=> .inr (.inl ⟨rfl,hi⟩)) (fun i h=>by rcases hN _ _ h with h|h|h|h|h|h|h|h|h|h|h<;>omega))
  ⟨D,lead.mono (fun i hi=> .inr (.inr (.inl ⟨rfl,hi⟩))),hr⟩
  ⟨.inr (.inr (.inr (.inl ⟨rfl,rfl⟩))),fun i hi=>by
   obtain rfl|rfl:i=0∨i=1:=by omega
   ·exact brc.cell 0
   ·exact brc.cell 1⟩
  ⟨.inr (.inr (.inr (.inr (.inl ⟨rfl,rfl⟩)))),fun i hi=>by
   obtain rfl|rfl:i=0∨i=1:=by omega
   ·exact brf.cell 0
   ·exact brf.cell 1⟩
  (fun i hi=>by
   obtain rfl|rfl:i=0∨i=1:=by omega
   ·exact (A.home.fr f (neK dcd)).wide (fun i hi=> .inr (.inr (.inr (.inr (.inr (.inr (.inr (.inl ⟨rfl,hi⟩)))))))) (fun i h=>by rcases hN _ _ h with h|h|h|h|h|h|h|h|h|h|h<;>omega)
   ·exact ((A.fo 1 dcd).fr f (neK dcd)).wide (fun i hi=> .inr (.inr (.inr (.inr (.inr (.inr (.inr (.inr (.inl ⟨rfl,hi⟩))))))))) (fun i h=>by rcases hN _ _ h with h|h|h|h|h|h|h|h|h|h|h<;>omega))
  (fun i hi=>by
   obtain rfl|rfl:i=0∨i=1:=by omega
   ·exact ⟨.inr (.inr (.inr (.inr (.inr (.inr (.inr (.inr (.inr (.inl ⟨rfl,rfl⟩))))))))),bf0⟩
   ·exact ⟨.inr (.inr (.inr (.inr (.inr (.inr (.inr (.inr (.inr (.inr ⟨rfl,(A.fb 1 dcd).1⟩))))))))),(A.fb 1 dcd).2.fr f (neK dcd _ (A.fb 1 dcd).1)⟩)
  ⟨.inr (.inr (.inr (.inr (.inr (.inl ⟨rfl,rfl⟩))))),fun i hi=>by
   obtain rfl|rfl:i=0∨i=1:=by omega
   ·exact ⟨brs.cell 0,brs.frozen 0⟩
   ·exact ⟨brs.cell 1,brs.frozen 1⟩⟩
  ⟨.inr (.inr (.inr (.inr (.inr (.inr (.inl ⟨rfl,rfl⟩)))))),fun i hi=>by
   obtain rfl|rfl:i=0∨i=1:=by omega
   ·exact ⟨brh.cell 0,brh.frozen 0⟩
   ·exact ⟨brh.cell 1,brh.frozen 1⟩⟩
  (fun _=>rfl) (fun _=>rfl)
 refine ⟨lab',hP,fun i j hi=> ?_⟩
 rcases hlb i j hi with ⟨e,h⟩|⟨e,h⟩|⟨e,h⟩|⟨e,h⟩|⟨e,h⟩|⟨e,h⟩|⟨e,h⟩|⟨e,h⟩|⟨e,h⟩|⟨e,h⟩|⟨e,h⟩
 all_goals first
  |exact .inl ⟨_,h⟩
  |exact .inr oy
  |exact (hH i h).elim (fun h=> .inl ⟨_,h⟩) (fun h=> .inr oy)
def an4 (w1:World)(M:PM)(q rc rf f0 rs rh:Nat)(W:World):Prop:=
 w1.heap.size≤q∧w1.heap.size≤rc∧w1.heap.size≤rf∧w1.heap.size≤f0∧w1.heap.size≤rs∧w1.heap.size≤rh∧Blk W q fU #[pp (M.cp 0),.pointer none,.slice (some ⟨rc,0,none⟩) 2 2,.slice (some ⟨rf,0,none⟩) 2 2,.slice (some ⟨rs,0,none⟩) 2 2,.slice (some ⟨rh,0,none⟩) 2 2,.int .i64 0,.int .i64 0,.int .i64 0,.int .i64 0,.int .i64 0]∧
 Blk W rc qL #[pp M.hp,pp (M.cp 1)]∧Blk W rf pG #[pp f0,pp (M.fp 1)]∧Blk W f0 TFw #[pp M.hp,.int .i64 0,.int .i64 0]∧Blk W rs aj3 #[.slice none 0 0,.slice none 0 0]∧Blk W rh aj4 #[.slice none 0 0,.slice none 0 0]∧Fr No w1 W
structure xH (w:World) (M:PM) (lab:Nat→Option Nat) (P:Pr) (n:Nat) (W:World):Prop where
 at_:eH W lab M P
 ok:iI P n
 lo:∀b j,lab b=some j→w.heap.size≤b
 fr:Fr No w W
theorem xH.to {Q:Pr}{n m:Nat}{W V:World}(h:xH w M lab P n W)(t:bP W lab M Q V)(ho:iI Q m):∃lab',xH w M lab' Q m V:=by
 obtain ⟨l,a,e,f⟩:=t;refine ⟨l,a,ho,fun b j hb=> ?_,h.fr.aD f fun b hb=> ?_⟩
 ·by_cases hw:b<W.heap.size
  ·exact h.lo b j ((e b hw)▸hb)
  ·have:=h.fr.size;omega
 ·cases hj:lab b with
  |none=>exact absurd hj hb
  |some j=>exact h.lo b j hj
theorem xH.au {n:Nat}{W V:World}(h:xH w M lab P n W)(f:Fr No W V):xH w M lab P n V:=⟨h.at_.still f,h.ok,h.lo,h.fr.ah f⟩
theorem nZ (P:Pr)(wh a b:Int):(aQ P wh a b).e=P.e∧(aQ P wh a b).mc=P.mc∧(aQ P wh a b).ak=P.ak:=by
 unfold aQ;simp only
 split
 ·exact ⟨rfl,rfl,rfl⟩
 split
 ·split<;>exact ⟨rfl,rfl,rfl⟩
 split
 ·split<;>exact ⟨rfl,rfl,rfl⟩
 split
 ·split
  ·exact ⟨rfl,rfl,rfl⟩
  ·split<;>exact ⟨rfl,rfl,rfl⟩
 ·exact ⟨rfl,rfl,rfl⟩
theorem ad9 (P:Pr)(wh a b:Int)(j:Nat)(h:∃p,P.pg j=some p):∃p,(aQ P wh a b).pg j=some p:=by
 unfold aQ;simp only
 split
 ·exact h
 split
 ·split<;>exact h
 split
 ·split<;>exact h
 split
 ·split
  ·exact h
  ·split
   ·exact h
   ·rename_i p hp
    show ∃q,fD P.pg _ _ j=some q
    by_cases e:j=(a % 2).toNat
    ·rw [e,upd_same];exact ⟨_,rfl⟩
    ·rw [aF _ _ e];exact h
 ·exact h
theorem aaw {n:Nat}{W:World}(h:xH w M lab P n W)(hn:n≤900)(wh a b:Int):
  Calls Tryz.prog 20 #[.pointer (some ⟨M.q,0,none⟩),.agg #[.int .i64 wh,.int .i64 a,.int .i64 b]] W fun e V=>e= .returned (.bool true)∧∃lab' Q,xH w M lab' Q (n+1) V∧Q.e=P.e∧Q.mc=P.mc∧∀j,(∃p,P.pg j=some p)→∃p,Q.pg j=some p:=by
 refine (aas h.at_ h.ok hn wh a b).mono ?_;rintro e V ⟨ak',h1,h2,rfl,ht⟩;have ho:=step_ok h.ok oy wh a b;obtain ⟨lab',hg⟩:=h.to ht (anx ho h1 h2);exact ⟨rfl,lab',_,hg,(nZ P wh a b).1,(nZ P wh a b).2.1,fun j hj=>ad9 P wh a b j hj⟩
theorem yD {W:World}(h:eH W lab M P){i:Nat}(hi:i<2){p:Pg}(hp:P.pg i=some p){x:Hd}{agr:Int}{c:Kp}(hx:adq P.e x agr c):
  Calls Tryz.prog 27 #[.pointer (some ⟨M.l,0,none⟩),.int .i64 ((i:Int)+1),.agg #[.int .i64 x.ep,.int .i64 x.ap,.bool x.ok]] W fun e w' =>e= .returned (.bool true)∧bP W lab M {P with pg:=fD P.pg i (some (gZ p x))} w' :=by
 obtain ⟨D,hL,hR⟩:=h.lead;have hr:=hR i hi;rw [hp] at hr;refine (xq hL _ oy oy x p hr.1 hr.2 hx.ep hx.ap0 hx.apM).mono ?_;rintro e w' ⟨rfl,h1,h2⟩;exact ⟨rfl,h.jJ (ak:=P.ak) h1 (hR.put hL.isMap hi _) h2⟩
def akw (w:World)(M:PM)(n:Nat)(b:Nat→Int)(W:World):Prop:=∃lab P,xH w M lab P n W∧∀i,i<2→∃p,P.pg i=some p∧muP P i p≤b i
theorem akw.le {n:Nat}{b b' :Nat→Int}{W:World}(h:akw w M n b W)(hb:∀i,i<2→b i≤b' i):akw w M n b' W:=by
 obtain ⟨lab,P,h1,h2⟩:=h;refine ⟨lab,P,h1,fun i hi=> ?_⟩;obtain ⟨p,h3,h4⟩:=h2 i hi;exact ⟨p,h3,Int.le_trans h4 (hb i hi)⟩
theorem aio {n:Nat}(h:iI P n)(hn:n≤1000){i:Nat}(hi:i<2){p:Pg}(hp:P.pg i=some p){b:Nat→Int}(hb:∀j,j<2→∃p,P.pg j=some p∧muP P j p≤b j){B:Int}(hB:max 0 (b i-1)≤B):
  ∀j,j<2→∃q,(gP P i p).pg j=some q∧muP (gP P i p) j q≤fD b i B j:=by
 obtain ⟨_,_,_,_,_,⟨p',h1,h2⟩,h3⟩:=rF h hn hi hp;intro j hj
 by_cases e:j=i
 ·subst e
  rw [upd_same];obtain ⟨q,q1,q2⟩:=hb j hj;rw [hp] at q1;injection q1 with q1;subst q1;exact ⟨p',h1,by omega⟩
 ·rw [aF _ _ e]
  obtain ⟨q,q1,q2⟩:=hb j hj;obtain ⟨r1,r2⟩:=h3 j e;refine ⟨q,r1.trans q1,?_⟩;have:muP (gP P i p) j q=muP P j q:=by unfold muP;rw [r2];rfl
  omega
end Go.Proofs.YtodkhcbjpodgeaaGreat
