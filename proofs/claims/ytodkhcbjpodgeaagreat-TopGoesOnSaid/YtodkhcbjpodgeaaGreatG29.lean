/-
  The leader of a tenant's home in memory: NewLeader, Add.
-/
import Derived.Test.YtodkhcbjpodgeaaGreatG28
import Derived.Maps.RangeWalk
namespace Go.Proofs.YtodkhcbjpodgeaaGreat
open Go.ChangeShapes Go.WideShapes Go.ChangeAt Go.RowKit
set_option linter.unusedVariables false
set_option maxRecDepth 100000
set_option maxHeartbeats 4000000
section
set_option linter.unusedSimpArgs false
abbrev TLd:TypeId:=153
abbrev TPg:TypeId:=155
abbrev aku:TypeId:=151
abbrev TI_:TypeId:=3
def Pg.v (p:Pg):Value:= .agg #[.bool p.rq,.int .i64 p.ap,.int .i64 p.nx]
def pgD (p:Pg):DataW Unit:= .agg [.lit (.bool p.rq),.lit (.int .i64 p.ap),.lit (.int .i64 p.nx)]
abbrev pg0:Pg:=⟨false,0,0⟩
def pR (v:Value):Option (DataW Unit×List MemPlace):=
 match v with
 | .agg a=>match a.toList with
  |[.bool b,.int .i64 x,.int .i64 y]=>some (pgD ⟨b,x,y⟩,[])
  |_=>none
 |_=>none
theorem aly (p:Pg):pR p.v=some (pgD p,[]):=rfl
theorem aa0 {v:Value}{d:DataW Unit}{q:List MemPlace}(h:pR v=some (d,q)):∃p:Pg,v=p.v∧d=pgD p:=by
 unfold pR at h
 split at h
 ·rename_i a
  split at h
  ·rename_i b x y he
   simp only [Option.some.injEq,Prod.mk.injEq] at h;refine ⟨⟨b,x,y⟩,?_,h.1.symm⟩;unfold Pg.v
   congr 1
   exact Array.ext' he
  ·cases h
 ·cases h
theorem uy {p q:Pg}(h:pgD p=pgD q):p=q:=by
 obtain ⟨a,b,c⟩:=p;obtain ⟨a',b',c'⟩:=q;simp only [pgD,DataW.agg.injEq,List.cons.injEq,DataW.lit.injEq,Lit.bool.injEq,Lit.int.injEq,and_true,true_and] at h;obtain ⟨rfl,rfl,rfl⟩:=h
 rfl
def kI (k:Int):Lit:= .int .i64 k
theorem ap3 {k:Int}(h0:0≤k)(h1:k<16):(Lit.int .i64 k).wf=true:=by
 have e1:IntKind.i64.min= -9223372036854775808:=by decide
 have e2:IntKind.i64.max=9223372036854775807:=by decide
 simp only [Lit.wf,e1,e2,Bool.and_eq_true,decide_eq_true_eq];omega
theorem afe {k:Int}(h0:0≤k)(h1:k<16):keyOf Tryz.prog TI_ (.int .i64 k)=some (kI k):=Maps.keyOf_int_mk Tryz.underlying3 (ap3 h0 h1)
theorem aav (W:World):(zeroValue TPg).run Tryz.prog W= .ok pg0.v W:=by kernel_rfl
theorem qh {w:World}{m n:Nat}{D:DataW Unit}(h:w.ownsMap Tryz.prog TI_ pR m n D){k:Int}(h0:0≤k)(h1:k<16):
  ∃p:Pg,D.atKey (kI k) (pgD pg0)=pgD p∧∀(V:World) (n2:Nat),V.ownsMap Tryz.prog TI_ pR m n2 D→(Instr.lookup aku (.map (some m)) (.int .i64 k) true).run Tryz.prog V= .ok (.tuple #[.agg #[.bool p.rq,.int .i64 p.ap,.int .i64 p.nx],.bool (Maps.has D (kI k))]) V:=by
 obtain ⟨v,ps,_,hv⟩:=h.look_ok (Maps.int_keyed Tryz.underlying3) Tryz.underlying151 (aav w) (aly pg0) (afe h0 h1);obtain ⟨p,rfl,hd⟩:=aa0 hv;refine ⟨p,hd,fun V n2 hV=> ?_⟩;obtain ⟨v2,ps2,hrun,hv2⟩:=hV.look_ok (Maps.int_keyed Tryz.underlying3) Tryz.underlying151 (aav V) (aly pg0) (afe h0 h1);obtain ⟨p2,rfl,hd2⟩:=aa0 hv2;obtain rfl:=uy (hd.symm.trans hd2);exact hrun
variable {w w' :World}{F G:Nat→Prop}
def aL (w:World)(F:Nat→Prop)(l:Nat)(ep lag ak:Int)(D:DataW Unit):Prop:=
 ∃m,F l∧F m∧Blk w l TLd #[.int .i64 ep,.int .i64 lag,.int .i64 ak,.map (some m)]∧w.ownsMap Tryz.prog TI_ pR m (Maps.size D) D∧Maps.size D≤4
theorem aL.fr {l:Nat}{ep lag ak:Int}{D:DataW Unit}(h:aL w F l ep lag ak D)(hf:Fr G w w')(hd:∀i,F i→¬G i):aL w' F l ep lag ak D:=by
 obtain ⟨m,f1,f2,b,o,z⟩:=h;exact ⟨m,f1,f2,b.fr hf (hd _ f1),fG o hf (hd _ f2),z⟩
theorem aL.mono {l:Nat}{ep lag ak:Int}{D:DataW Unit}(h:aL w F l ep lag ak D)(hFG:∀i,F i→G i):aL w G l ep lag ak D:=by
 obtain ⟨m,f1,f2,x⟩:=h;exact ⟨m,hFG _ f1,hFG _ f2,x⟩
theorem fJ {V:World}{g:Nat}{a b c d:Value}(h:Blk V g TLd #[a,b,c,d]):V.cell? ⟨g,0,none⟩=some a∧V.cell? ⟨g,1,none⟩=some b∧V.cell? ⟨g,2,none⟩=some c∧V.cell? ⟨g,3,none⟩=some d:=⟨h.cell 0,h.cell 1,h.cell 2,h.cell 3⟩
theorem lQ {V:World}{g:Nat}{a b c:Value}(h:Blk V g TPg #[a,b,c]):V.cell? ⟨g,0,none⟩=some a∧V.cell? ⟨g,1,none⟩=some b∧V.cell? ⟨g,2,none⟩=some c:=⟨h.cell 0,h.cell 1,h.cell 2⟩
theorem aL.parts {l:Nat}{ep lag ak:Int}{D:DataW Unit}(h:aL w F l ep lag ak D):∃m,F l∧F m∧l≠m∧Maps.size D≤4∧(∀V,Fr No w V→Blk V l TLd #[.int .i64 ep,.int .i64 lag,.int .i64 ak,.map (some m)]∧V.ownsMap Tryz.prog TI_ pR m (Maps.size D) D):=by
 obtain ⟨m,f1,f2,b,o,z⟩:=h;refine ⟨m,f1,f2,fun e=> ?_,z,fun V hV=>⟨b.fr hV id,fG o hV id⟩⟩;subst e;obtain ⟨es,clock,hh,_⟩:=o;rw [Blk] at b;rw [b] at hh
 cases hh
theorem aL.turned {l m:Nat}{ep lag ak:Int}{D' :DataW Unit}{V W:World}{n:Nat}(f1:F l)(f2:F m)(hne:l≠m)(hV:Fr No w V)(hb:Blk V l TLd #[.int .i64 ep,.int .i64 lag,.int .i64 ak,.map (some m)])(ht:Fr (fun i=>i=m) V W)(ho:W.ownsMap Tryz.prog TI_ pR m n D')(hz:Maps.size D'≤4):
  aL W F l ep lag ak D'∧Fr F w W:=
 ⟨⟨m,f1,f2,hb.fr ht hne,gQ ho,hz⟩,(hV.mono fun _ h=>h.elim:Fr F w V).trans ht (fun i hi=>by have hi:i=m:=hi;subst hi;exact .inl f2)⟩
theorem mQ (w:World)(ep lag ak:Int)(h1:1≤ep)(h2:ep≤1048576)(h3: -1≤lag)(h4:lag≤1000)(h5:0≤ak)(h6:ak≤4096):
  Calls Tryz.prog 22 #[.int .i64 ep,.int .i64 lag,.int .i64 ak] w fun e w' =>∃l,e= .returned (.tuple #[.pointer (some ⟨l,0,none⟩),.int .i64 0])∧aL w' (fun i=>w.heap.size≤i) l ep lag ak (.map [])∧Fr No w w' :=by
 have hmk:=run_makeMap (P:=Tryz.prog) aku w;have d1:decide (ep<1)=false:=dff;have d2:decide (1048576<ep)=false:=dff;have d3:decide (lag< -1)=false:=dff;have d4:decide (1000<lag)=false:=dff;have d5:decide (ak<0)=false:=dff;have d6:decide (4096<ak)=false:=dff;clear h1 h2 h3 h4 h5 h6
 go_in
 go_wp2_with fail
 go_ret2
 have ho:=gQ (World.ownsMap_made w Tryz.prog TI_ pR);exact ⟨_,rfl,⟨w.heap.size,(by simp),Nat.le_refl _,Blk.newG _ _ _ (by simp),fG ho (aj _ _) id,by decide⟩,(aj _ _).ah (aj _ _)⟩
theorem jG {D:DataW Unit}{m n:Nat}(h:w.ownsMap Tryz.prog TI_ pR m n D)(k:Lit)(d:DataW Unit):Maps.size (D.put k d)≤Maps.size D+1∧(Maps.has D k=true→Maps.size (D.put k d)=Maps.size D):=by
 have:=Maps.size_put (h.tidy (Maps.int_keyed Tryz.underlying3)) (k:=k) d;rw [this]
 constructor
 ·split<;>omega
 ·intro e;rw [if_pos e]
theorem qj {l:Nat}{ep lag ak:Int}{D:DataW Unit}(h:aL w F l ep lag ak D)(k len:Int)(rq:Bool)(h0:0≤k)(h1:k<16)(h2:0≤len)(h3:len≤4096)(hh:Maps.has D (kI k)=false)(hz:Maps.size D<4):
  Calls Tryz.prog 24 #[.pointer (some ⟨l,0,none⟩),.int .i64 k,.bool rq,.int .i64 len] w fun e w' =>e= .returned (.int .i64 0)∧aL w' F l ep lag ak (D.put (kI k) (pgD ⟨rq,0,len⟩))∧Fr F w w' :=by
 obtain ⟨m,f1,f2,hne,hz4,hp⟩:=h.parts;have hown:=(hp w (Fr.refl _ _)).2;have aqe:=(jG hown (kI k) (pgD ⟨rq,0,len⟩)).1;obtain ⟨p,hat,iL⟩:=qh hown h0 h1;rw [hh] at iL;have hkey:=afe h0 h1;have hlk:=iL w _ hown;obtain ⟨c0,c1,c2,c3⟩:=fJ (hp w (Fr.refl _ _)).1;have hfin:=fun (V W:World) (n:Nat) (hV:Fr No w V) (ht:Fr (fun i=>i=m) V W) (ho:W.ownsMap Tryz.prog TI_ pR m n (D.put (kI k) (pgD ⟨rq,0,len⟩)))=>aL.turned f1 f2 hne hV (hp V hV).1 ht ho oy;have d1:decide (k<0)=false:=dff;have d2:decide (16≤k)=false:=dff;have d3:decide (len<0)=false:=dff;have d4:decide (4096<len)=false:=dff;have hmax:Maps.size D<maxLen:=by unfold maxLen;omega
 have hlw:l<w.heap.size:=(hp w (Fr.refl _ _)).1.lt;have hne2:l≠w.heap.size:=by omega
 clear h0 h1 h2 h3 iL hat hown hne hz4 hz aqe h;obtain ⟨HP,HKEY,eu,ao8⟩:=fV hp hkey hfin hmax;clear hp hkey hfin hmax
 go_in
 go_wp2_with (at_mapUpdate;refine wpList_mapUpdate_in _ rfl _ _ _ aku rfl TI_ TPg (Maps.int_keyed Tryz.underlying3) Tryz.underlying151 pR m _ D rfl (HP.out _ (aj _ _)).2 ao8.out _ _ _ rfl rfl HKEY.out (pgD ⟨rq,0,len⟩) [] rfl ?_;intro w5 ho5 ht5;have HFI:=O (eu.out _ _ _ (aj _ _) (iW ht5) ho5);clear ho5 ht5)
 go_ret
 exact ⟨rfl,HFI.out⟩
end
section
set_option linter.unusedSimpArgs false
abbrev TSh:TypeId:=76
variable {w w' :World}{F G:Nat→Prop}
theorem Rd.takeC {B:Nat}{A:Option Addr}{xs:List Value}(h:Rd w B A xs)(k:Nat):Rd w B A (xs.take k):=by
 rcases h with h|⟨b,off,e,hb,hc⟩
 ·exact .inl (by rw [h,List.take_nil])
 ·refine .inr ⟨b,off,e,hb,fun j hj=> ?_⟩
  rw [hc j (by rw [List.length_take] at hj;omega),List.getElem_take]
theorem aek {P:Program}(t e:TypeId)(ht:P.underlying t=some (.slice e))(i:TypeInfo)(hi:P.info? e=some i)(sz:Nat)(hs:i.size=sz)(A:Option Addr)(n c lo up:Nat)(h1:lo≤up)(h2:up≤n)(h3:n≤c)(hA:A=none→n=0):
  ∃A',(∀w:World,(Instr.slice t (.slice A n c) (some (.int .i64 (lo:Int))) (some (.int .i64 (up:Int))) none).run P w= .ok (.slice A' (up-lo) (c-lo)) w)∧(A' =none→up-lo=0)∧∀(w:World) (B:Nat) (xs:List Value),xs.length=n*sz→Rd w B A xs→Rd w B A' ((xs.drop (lo*sz)).take ((up-lo)*sz)):=by
 have he:P.elem t=e:=by simp [Program.elem,ht]
 refine ⟨if c=lo then A else A.map (·.add (lo*sz)),fun w=> ?_,?_,fun w B xs hx h=> ?_⟩
 ·rw [run_slice_lh w t A n c (by rw [he];exact ht) .i64 .i64 (lo:Int) (up:Int) oy oy oy,he]
  simp [sizeOf,typeInfo,hi,hs,sliced]
 ·intro h
  split at h
  ·have:=hA h;omega
  ·cases A with
   |none=>have:=hA rfl;omega
   |some a=>cases h
 ·split
  ·have:up-lo=0:=by omega
   rw [this,Nat.zero_mul,List.take_zero];exact .inl rfl
  ·rename_i hne
   have:=h.anh (n*sz+lo*sz+1) (lo*sz) oy;rw [if_neg oy] at this;exact this.takeC _
theorem afi:∃i,Tryz.prog.info? TCh=some i∧i.size=8:=by
 obtain ⟨i1,hi1,hz0,hz1,hz2⟩:=info_parts iK;exact ⟨i1,hi1,hz1⟩
theorem aR {V:World}{g:Nat}{a b c d:Value}(h:Blk V g TSh #[a,b,c,d]):V.cell? ⟨g,0,none⟩=some a∧V.cell? ⟨g,1,none⟩=some b∧V.cell? ⟨g,2,none⟩=some c∧V.cell? ⟨g,3,none⟩=some d∧V.frozen? ⟨g,0,none⟩=false∧V.frozen? ⟨g,1,none⟩=false∧V.frozen? ⟨g,2,none⟩=false∧V.frozen? ⟨g,3,none⟩=false:=
 ⟨h.cell 0,h.cell 1,h.cell 2,h.cell 3,h.frozen 0,h.frozen 1,h.frozen 2,h.frozen 3⟩
theorem lK {w5:World}{g6 g11 n5 c5:Nat}{A5:Option Addr}{ep n xe:Int}{z1 z2 z3 z4:Value}{y1 y2 y3 y4:Value}{xs:List Value}(b5:Blk w5 g11 TSh #[y1,y2,y3,y4])(b6:Blk w5 g6 TSh #[z1,z2,z3,z4])(hne:¬g6=g11)
  (o5:aA w5 (fun i=>w.heap.size≤i) TCh 8 (.slice A5 n5 c5) n5 xs) (f5:Fr No w w5) (h6:w.heap.size≤g6) (h11:w.heap.size≤g11):
  Blk (World.setCell (World.setCell (World.setCell (World.setCell (World.setCell w5 ⟨g11,3,none⟩ (.slice A5 n5 c5)) ⟨g6,0,none⟩ (.int .i64 ep)) ⟨g6,1,none⟩ (.int .i64 n)) ⟨g6,2,none⟩ (.int .i64 xe)) ⟨g6,3,none⟩ (.slice A5 n5 c5)) g6 TSh #[.int .i64 ep,.int .i64 n,.int .i64 xe,.slice A5 n5 c5]∧aA (World.setCell (World.setCell (World.setCell (World.setCell (World.setCell w5 ⟨g11,3,none⟩ (.slice A5 n5 c5)) ⟨g6,0,none⟩ (.int .i64 ep)) ⟨g6,1,none⟩ (.int .i64 n)) ⟨g6,2,none⟩ (.int .i64 xe)) ⟨g6,3,none⟩ (.slice A5 n5 c5)) (fun i=>w.heap.size≤i) TCh 8 (.slice A5 n5 c5) n5 xs∧Fr No w (World.setCell (World.setCell (World.setCell (World.setCell (World.setCell w5 ⟨g11,3,none⟩ (.slice A5 n5 c5)) ⟨g6,0,none⟩ (.int .i64 ep)) ⟨g6,1,none⟩ (.int .i64 n)) ⟨g6,2,none⟩ (.int .i64 xe)) ⟨g6,3,none⟩ (.slice A5 n5 c5)):=by
 have s1:Fr (fun i=>i=g11) w5 (w5.setCell ⟨g11,3,none⟩ (.slice A5 n5 c5)):=(Fr.refl (fun i=>i=g11) w5).setCell (p:=⟨g11,3,none⟩) (.inl rfl) _;have s2:=dI (Z:=w5.setCell ⟨g11,3,none⟩ (.slice A5 n5 c5)) (g:=g6) (.int .i64 ep) (.int .i64 n) (.int .i64 xe) (.slice A5 n5 c5);have hf:Fr (fun i=>i=g11∨i=g6) w5 _:=(s1.mono fun _ h=> .inl h).trans (s2.mono fun _ h=> .inr h) fun i h=> .inl h;refine ⟨Blk.cv (Blk.aC (Blk.aC (Blk.aC (Blk.aC (b6.fr s1 hne) 0 _) 1 _) 2 _) 3 _) (by simp),o5.fr' hf (fun k hk e=> ?_),(f5.mono fun _ h=>h.elim:Fr No w w5).trans hf fun i h=> .inr (by rcases h with h|h<;>omega)⟩
 rcases e with e|e
 ·exact o5.aW b5 dcd k hk e
 ·exact o5.aW b6 dcd k hk e
theorem iA {f:Func}(k j:Nat){g:Nat}(a b c d e:Value)(ts:Array Value){W:World}(hb:Blk W g TSh #[a,b,c,d])(h2:ts[k]?.getD undef= .pointer (some ⟨g,0,none⟩))(h3:ts[j]?.getD undef=e)(hr:f.results= #[.cell k TSh,.tmp j]):(results f ts).run Tryz.prog W= .ok (.tuple #[.agg #[a,b,c,d],e]) W:=by
 obtain ⟨c0,c1,c2,c3,_⟩:=aR hb
 simp [results,hr,go_sem,h2,h3,c0,c1,c2,c3]
set_option maxHeartbeats 8000000 in
theorem aef {l:Nat}{ep lag ak:Int}{D:DataW Unit}(h:aL w F l ep lag ak D)(k:Int)(h0:0≤k)(h1:k<16){A:Option Addr}{c:Nat}{H:List Ch}(hr:Rd w w.heap.size A (chV H))(hA:A=none→H.length=0)(hlc:H.length≤c)(hcm:c≤maxLen)(hl:H.length≤4096)
  (p:Pg) (hh:Maps.has D (kI k)=true) (hat:D.atKey (kI k) (pgD pg0)=pgD p) (hnx:0≤p.nx):
  Calls Tryz.prog 25 #[.pointer (some ⟨l,0,none⟩),.int .i64 k,.slice A H.length c] w fun e w' =>∃A2 c2,e= .returned (.tuple #[.agg #[.int .i64 (dz ep p H).ep,.int .i64 (dz ep p H).sq,.int .i64 (dz ep p H).bf,.slice A2 (dz ep p H).cs.length c2],.bool true])∧
   aA w' (fun i=>w.heap.size≤i) TCh 8 (.slice A2 (dz ep p H).cs.length c2) (dz ep p H).cs.length (chV (dz ep p H).cs)∧Fr No w w' :=by
 obtain ⟨m,f1,f2,hne,hz4,hp⟩:=h.parts;have hown:=(hp w (Fr.refl _ _)).2;obtain ⟨p',hat',iL⟩:=qh hown h0 h1;obtain rfl:=uy (hat.symm.trans hat');rw [hh] at iL;have hlk:=fun V (hV:Fr No w V)=>iL V _ (hp V hV).2;have hld:=fun V (hV:Fr No w V)=>fJ (hp V hV).1;obtain ⟨prq,pap,pnx⟩:=p;simp only at hnx hlk;obtain ⟨n,hn⟩:∃n:Nat,min pnx (H.length:Int)=(n:Int):=⟨(min pnx (H.length:Int)).toNat,by omega⟩;have hnH:n≤H.length:=by omega
 obtain ⟨up,hup⟩:∃u:Nat,min ((n:Int)+8) (H.length:Int)=(u:Int):=⟨(min ((n:Int)+8) (H.length:Int)).toNat,by omega⟩;have hu1:n≤up:=by omega
 have hu2:up≤H.length:=by omega
 have ht8:(H.drop n).take 8=(H.drop n).take (up-n):=by
  rcases Nat.le_total 8 (H.length-n) with e|e
  ·rw [show up-n=8 from by omega]
  ·rw [List.take_of_length_le (by rw [List.length_drop];exact e),List.take_of_length_le (by rw [List.length_drop];omega)]
 have hlen:((H.drop n).take (up-n)).length=up-n:=by rw [List.length_take,List.length_drop];omega
 obtain ⟨i1,hi1,hz1⟩:=afi;obtain ⟨A',hsl,hA',as6⟩:=aek 41 TCh Tryz.underlying41 i1 hi1 8 hz1 A H.length c n up hu1 hu2 hlc hA;have hcl:=fun V (hV:Fr No w V)=>sV V A' (up-n) (c-n) (chV ((H.drop n).take (up-n))) hA' (by
  rw [←xB,←xC];exact as6 V _ _ (qz _) ((hr.au hV (Nat.le_refl _)).mono hV.size)) (by rw [qz,hlen]) (acu _) oy
 have hSF:dz ep ⟨prq,pap,pnx⟩ H=⟨ep,n,if 0<n then (H.getD (n-1) ⟨0,0,0,0,0,0,noS,noS⟩).ep else 0,(H.drop n).take (up-n)⟩:=by
  unfold dz;simp only [hn,←ht8]
  congr 1
  by_cases hz:0<n
  ·rw [if_pos hz,if_pos oy]
   congr 2
   omega
  ·rw [if_neg hz,if_neg oy]
 rw [hSF];simp only [hlen];have hch:=fun (hz:0<n)=>hr.lI (i:=n-1) oy;clear hat hat' iL hown h hr ht8 hlen hSF hi1 hz1 hA' as6 hp;unfold maxLen at hcm;obtain ⟨w2,hw2⟩:∃w2,w2=(w.alloc (.cells #[.int .i64 0,.int .i64 0,.int .i64 0,.slice none 0 0] TSh)).alloc (.cells #[.bool prq,.int .i64 pap,.int .i64 pnx] TPg):=⟨_,rfl⟩;obtain ⟨g6,hg6⟩:∃g,g=w.heap.size:=⟨_,rfl⟩;obtain ⟨g8,hg8⟩:∃g,g=w.heap.size+1:=⟨_,rfl⟩;have f2:Fr No w w2:=by rw [hw2];exact (aj _ _).alloc _
 have b6:Blk w2 g6 TSh #[.int .i64 0,.int .i64 0,.int .i64 0,.slice none 0 0]:=by rw [hw2,hg6];exact (Blk.new _ _ _).fr (aj _ _) id
 have b8:Blk w2 g8 TPg #[.bool prq,.int .i64 pap,.int .i64 pnx]:=by rw [hw2,hg8];exact Blk.newG _ _ _ (by simp)
 have amt:=hlk (w.alloc (.cells #[.int .i64 0,.int .i64 0,.int .i64 0,.slice none 0 0] TSh)) (aj _ _);obtain ⟨c0,c1,c2,c3⟩:=hld (w.alloc (.cells #[.int .i64 0,.int .i64 0,.int .i64 0,.slice none 0 0] TSh)) (aj _ _);obtain ⟨xe,hxe⟩:∃xe,xe=(if 0<n then (H.getD (n-1) ⟨0,0,0,0,0,0,noS,noS⟩).ep else 0):=⟨_,rfl⟩;rw [←hxe];have aub:0<n→∃b off,A=some ⟨b,off,none⟩∧∀V,Fr No w V→V.cell? ⟨b,off+(n-1)*8,none⟩=some (.int .i64 xe):=by
  intro hz;obtain ⟨b,off,x,e,hx,hxc⟩:=hch hz;rw [if_pos hz,List.getD_eq_getElem?_getD,hx,Option.getD_some] at hxe;subst hxe;exact ⟨b,off,e,fun V hV=>(hxc V hV).1⟩
 have hx0:n=0→xe=0:=by
  intro hz;rw [hxe,if_neg oy]
 generalize hL:H.length=L at*;clear hch hxe hL;have amy:w.heap.size≤g6:=by omega
 have aza:g6<w2.heap.size:=b6.lt;have hn' :(n:Int)≤(L:Int):=by omega
 obtain ⟨HN,HUP⟩:=aN hn hup;clear hn hup;obtain ⟨HLK,HCL,HLD,HW2,HG6,HG8,F2,B6,B8,ar7,HX0,HSL⟩:=nS hlk hcl hld hw2 hg6 hg8 f2 b6 b8 aub hx0 hsl;clear hlk hcl hld hw2 hg6 hg8 f2 b6 b8 aub hx0 hsl
 go_in
 go_upto_region 4 with fail
 rw [←HG8.out,←HG6.out,←HW2.out];clear amt c0 c1 c2 c3;obtain ⟨v0,v1,v2⟩:=lQ B8.out
 go_cut [10] from 24 to 28 (fun v wx=>v= .int .i64 (n:Int)∧wx=w2)
 case first=>
  by_cases hm:pnx≤(L:Int)
  ·have hm2:Hid (pnx=(n:Int)):=O (by have:=HN.out;omega)
   go_wp2_with fail
   all_goals go_meet
   all_goals exact ⟨by rw [hm2.out],rfl⟩
  ·have hm2:Hid ((L:Int)=(n:Int)):=O (by have:=HN.out;omega)
   have hm3:(L:Int)<pnx:=by omega
   go_wp2_with fail
   all_goals go_meet
   all_goals exact ⟨by rw [hm2.out],rfl⟩
 obtain ⟨rfl,rfl⟩:=hcut;obtain ⟨c0,c1,c2,c3⟩:=HLD.out wc F2.out
 go_upto_region 6 with fail
 obtain ⟨w3,hw3⟩:∃w3,w3=wc.alloc (.cells #[.int .i64 ep,.int .i64 (n:Int),.int .i64 0,.slice none 0 0] TSh):=⟨_,rfl⟩;obtain ⟨g11,ahg⟩:∃g,g=wc.heap.size:=⟨_,rfl⟩;rw [←hw3,←ahg];have f23:Fr No wc w3:=by rw [hw3];exact aj _ _
 have b11:Blk w3 g11 TSh #[.int .i64 ep,.int .i64 (n:Int),.int .i64 0,.slice none 0 0]:=by rw [hw3,ahg];exact Blk.new _ _ _
 obtain ⟨F3,B11,B63⟩:=bC (F2.out.ah f23) b11 (B6.out.fr f23 id);have abw:wc.heap.size≤g11:=by omega
 clear c0 c1 c2 c3 v0 v1 v2 f23 b11 B6 B8 HW2 HG6 HG8 hw3 ahg;obtain ⟨u0,u1,u2,u3,fz0,fz1,fz2,fz3⟩:=aR B11.out;have amw:¬g6=g11:=by omega
 rcases Nat.eq_zero_or_pos n with hz|hz
 ·obtain rfl:=HX0.out hz
  have hz1:¬((0:Int)<(n:Int)):=by omega
  go_upto_region 8 with fail
  have aol:=B11;have F4:=F3;have B64:=B63;clear u0 u1 u2 u3 fz0 fz1 fz2 fz3 hz1 B11 F3 B63 HX0 ar7 hz
  by_cases hm8:n+8≤L
  ·have hq:(n:Int)+8=(up:Int):=by have:=HUP.out;omega
   have hq1:(up:Int)≤(L:Int):=by omega
   have hs:=HSL.out
   go_wp2_with fail
   refine (HCL.out _ F4.out).mono ?_;rintro r w5 ⟨A5,c5,rfl,o5,f5⟩;have b5:=aol.out.fr f5 id;have b65:=B64.out.fr f5 id;obtain ⟨F5,O5⟩:=aN (F4.out.ah f5) (o5.mono (fun i h=>Nat.le_trans F4.out.size h));have aqx:g6<_:=b65.lt;obtain ⟨B5,B65,HNE,akb⟩:=fV b5 b65 (o5.aW b5 dcd) (o5.aW b65 dcd);obtain ⟨x0,x1,x2,x3,fz0,fz1,fz2,fz3⟩:=aR b5;obtain ⟨z0,z1,z2,z3,fy0,fy1,fy2,fy3⟩:=aR b65;clear b5 b65 o5 f5 hs hq1;have eu:=O (fun (n xe:Int)=>lK (ep:=ep) (n:=n) (xe:=xe) B5.out B65.out amw O5.out F5.out amy (Nat.le_trans F2.out.size abw));clear B5 B65 O5 F5 HNE akb
   go_wp2_with fail
   exact bodyPost_ret (iA 6 7 _ _ _ _ _ _ (eu.out _ _).1 rfl rfl rfl) rfl ⟨A5,c5,rfl,(eu.out _ _).2⟩
  ·have hq:Hid (L=up):=O (by have:=HUP.out;omega)
   have hq1:(L:Int)<(n:Int)+8:=by omega
   obtain rfl:=hq.out;have hs:=HSL.out
   go_wp2_with fail
   refine (HCL.out _ F4.out).mono ?_;rintro r w5 ⟨A5,c5,rfl,o5,f5⟩;have b5:=aol.out.fr f5 id;have b65:=B64.out.fr f5 id;obtain ⟨F5,O5⟩:=aN (F4.out.ah f5) (o5.mono (fun i h=>Nat.le_trans F4.out.size h));have aqx:g6<_:=b65.lt;obtain ⟨B5,B65,HNE,akb⟩:=fV b5 b65 (o5.aW b5 dcd) (o5.aW b65 dcd);obtain ⟨x0,x1,x2,x3,fz0,fz1,fz2,fz3⟩:=aR b5;obtain ⟨z0,z1,z2,z3,fy0,fy1,fy2,fy3⟩:=aR b65;clear b5 b65 o5 f5 hs hq1;have eu:=O (fun (n xe:Int)=>lK (ep:=ep) (n:=n) (xe:=xe) B5.out B65.out amw O5.out F5.out amy (Nat.le_trans F2.out.size abw));clear B5 B65 O5 F5 HNE akb
   go_wp2_with fail
   exact bodyPost_ret (iA 6 7 _ _ _ _ _ _ (eu.out _ _).1 rfl rfl rfl) rfl ⟨A5,c5,rfl,(eu.out _ _).2⟩
 ·obtain ⟨b,off,rfl,hxe⟩:=ar7.out hz
  obtain ⟨n',hn1⟩:∃n',n=n' +1:=⟨n-1,by omega⟩;have hx1:=hxe w3 F3.out;rw [hn1,Nat.add_sub_cancel] at hx1;have hz1:(0:Int)<(n:Int):=by omega
  have hw1:(n:Int)-1=(n' :Int):=by omega
  have hlt1:(n' :Int)<(L:Int):=by omega
  have hlt2:n' <L:=by omega
  have HN1:=O hn1;clear hn1 hxe
  go_upto_region 8 with fail
  have hst:Fr (fun i=>i=g11) w3 (w3.setCell ⟨g11,2,none⟩ (.int .i64 xe)):=(Fr.refl (fun i=>i=g11) w3).setCell (p:=⟨g11,2,none⟩) (.inl rfl) _;have hb4:Blk (w3.setCell ⟨g11,2,none⟩ (.int .i64 xe)) g11 TSh #[.int .i64 ep,.int .i64 (n:Int),.int .i64 xe,.slice none 0 0]:=Blk.cv (B11.out.aC 2 _) (by simp);have hb6:=B63.out.fr hst amw;have hf4:Fr No w (w3.setCell ⟨g11,2,none⟩ (.int .i64 xe)):=F3.out.setCell (.inr (Nat.le_trans F2.out.size abw)) _;generalize w3.setCell ⟨g11,2,none⟩ (.int .i64 xe)=w4 at*;obtain ⟨aol,F4,B64⟩:=bC hb4 hf4 hb6;clear hst hb4 hb6 hf4 u0 u1 u2 u3 fz0 fz1 fz2 fz3 B11 F3 B63 HX0 ar7 hx1 hw1 hlt1 hlt2
  by_cases hm8:n+8≤L
  ·have hq:(n:Int)+8=(up:Int):=by have:=HUP.out;omega
   have hq1:(up:Int)≤(L:Int):=by omega
   have hs:=HSL.out
   go_wp2_with fail
   refine (HCL.out _ F4.out).mono ?_;rintro r w5 ⟨A5,c5,rfl,o5,f5⟩;have b5:=aol.out.fr f5 id;have b65:=B64.out.fr f5 id;obtain ⟨F5,O5⟩:=aN (F4.out.ah f5) (o5.mono (fun i h=>Nat.le_trans F4.out.size h));have aqx:g6<_:=b65.lt;obtain ⟨B5,B65,HNE,akb⟩:=fV b5 b65 (o5.aW b5 dcd) (o5.aW b65 dcd);obtain ⟨x0,x1,x2,x3,fz0,fz1,fz2,fz3⟩:=aR b5;obtain ⟨z0,z1,z2,z3,fy0,fy1,fy2,fy3⟩:=aR b65;clear b5 b65 o5 f5 hs hq1;have eu:=O (fun (n xe:Int)=>lK (ep:=ep) (n:=n) (xe:=xe) B5.out B65.out amw O5.out F5.out amy (Nat.le_trans F2.out.size abw));clear B5 B65 O5 F5 HNE akb
   go_wp2_with fail
   exact bodyPost_ret (iA 6 7 _ _ _ _ _ _ (eu.out _ _).1 rfl rfl rfl) rfl ⟨A5,c5,rfl,(eu.out _ _).2⟩
  ·have hq:Hid (L=up):=O (by have:=HUP.out;omega)
   have hq1:(L:Int)<(n:Int)+8:=by omega
   obtain rfl:=hq.out;have hs:=HSL.out
   go_wp2_with fail
   refine (HCL.out _ F4.out).mono ?_;rintro r w5 ⟨A5,c5,rfl,o5,f5⟩;have b5:=aol.out.fr f5 id;have b65:=B64.out.fr f5 id;obtain ⟨F5,O5⟩:=aN (F4.out.ah f5) (o5.mono (fun i h=>Nat.le_trans F4.out.size h));have aqx:g6<_:=b65.lt;obtain ⟨B5,B65,HNE,akb⟩:=fV b5 b65 (o5.aW b5 dcd) (o5.aW b65 dcd);obtain ⟨x0,x1,x2,x3,fz0,fz1,fz2,fz3⟩:=aR b5;obtain ⟨z0,z1,z2,z3,fy0,fy1,fy2,fy3⟩:=aR b65;clear b5 b65 o5 f5 hs hq1;have eu:=O (fun (n xe:Int)=>lK (ep:=ep) (n:=n) (xe:=xe) B5.out B65.out amw O5.out F5.out amy (Nat.le_trans F2.out.size abw));clear B5 B65 O5 F5 HNE akb
   go_wp2_with fail
   exact bodyPost_ret (iA 6 7 _ _ _ _ _ _ (eu.out _ _).1 rfl rfl rfl) rfl ⟨A5,c5,rfl,(eu.out _ _).2⟩
end
section
set_option linter.unusedSimpArgs false
variable {w w' :World}{F G:Nat→Prop}
theorem nC {x:Ch}(h:chB x=true):x.ky.size≤16∧x.vl.size≤64:=by
 have e0:noS.size=0:=rfl;simp only [chB,Bool.and_eq_true] at h;have h:=h.2;simp only [iF,iP] at h
 split at h
 ·simp only [Bool.and_eq_true,decide_eq_true_eq] at h
  omega
 ·split at h
  ·simp only [Bool.and_eq_true,decide_eq_true_eq] at h
   obtain ⟨⟨h1,h2⟩,h3⟩:=h;rw [h2]
   omega
  ·split at h
   ·simp only [Bool.and_eq_true,decide_eq_true_eq] at h
    obtain ⟨⟨h1,h2⟩,h3⟩:=h;rw [h1]
    omega
   ·split at h
    ·simp only [Bool.and_eq_true,decide_eq_true_eq] at h
     obtain ⟨⟨⟨h1,h2⟩,h3⟩,h4⟩:=h;rw [h1,h2]
     omega
    ·cases h
set_option maxHeartbeats 8000000 in
theorem yX {A:Option Addr}{c:Nat}(m:Sh)(hr:Rd w w.heap.size A (chV m.cs))(hA:A=none→m.cs.length=0)(hlc:m.cs.length≤c)(hcm:c≤maxLen)(hsh:shB m=true):
  Calls Tryz.prog 60 #[.agg #[.int .i64 m.ep,.int .i64 m.sq,.int .i64 m.bf,.slice A m.cs.length c]] w fun e w' =>e= .returned (.bool true)∧Fr No w w' :=by
 obtain ⟨ep,sq,bf,cs⟩:=m;simp only [shB,btw,Bool.and_eq_true,decide_eq_true_eq] at hsh hr hA hlc ⊢;obtain ⟨⟨⟨⟨⟨⟨h1,h2⟩,h3,h4⟩,h5,h6⟩,h7⟩,h8⟩,h9⟩:=hsh;have hat:=fun i (hi:i<cs.length)=>hr.lI hi;have hval:=fun (x:Ch) (hx:chB x=true) V=>iX x V (by have:=(nC hx).1;unfold maxLen;omega) (by have:=(nC hx).2;unfold maxLen;omega);unfold maxLen at hcm;have d1:decide (ep<1)=false:=dff;have d2:decide (1048576<ep)=false:=dff;have d3:decide (sq<0)=false:=dff;have d4:decide (4096<sq)=false:=dff;have d5:decide (bf<0)=false:=dff;have d6:decide (ep<bf)=false:=dff;have d8:(cs.length:Int)≤8:=by omega
 have d7:(sq == 0)=(bf == 0):=by
  by_cases e:sq=0
  ·rw [e,h7.1 e]
  ·have e2:bf≠0:=fun h=>e (h7.2 h)
   rw [beq_false_of_ne e,beq_false_of_ne e2]
 obtain ⟨w1,hw1⟩:∃w1,w1=w.alloc (.cells #[.int .i64 ep,.int .i64 sq,.int .i64 bf,.slice A cs.length c] TSh):=⟨_,rfl⟩;obtain ⟨g1,hg1⟩:∃g,g=w.heap.size:=⟨_,rfl⟩;have f1:Fr No w w1:=by rw [hw1];exact aj _ _
 have b1:Blk w1 g1 TSh #[.int .i64 ep,.int .i64 sq,.int .i64 bf,.slice A cs.length c]:=by rw [hw1,hg1];exact Blk.new _ _ _
 obtain ⟨H9,H34⟩:=aN h9 (And.intro h3 h4);clear h1 h2 h3 h4 h5 h6 h7 h8 h9 hr;obtain ⟨HAT,aj8,HW1,HG1,F1,B1,HA⟩:=jo hat hval hw1 hg1 f1 b1 hA;clear hat hval hw1 hg1 f1 b1 hA
 go_in
 go_upto_region 1 with fail
 rw [←HG1.out,←HW1.out];obtain ⟨x0,x1,x2,x3,_⟩:=aR B1.out
 go_wp2_with fail
 clear x0 x1 x2 x3 d1 d2 d3 d4 d5 d6 d7 d8
 go_loopw [3,56] (fun b iv wr=>∃(i:Nat) (bi:Int),i≤cs.length∧iv= .int .i64 (i:Int)∧b= .int .i64 bi∧agz sq ep (cs.drop i) i bi=true∧Fr No w1 wr) (fun _ iv _=>cs.length-(intOf iv).toNat)
 case atStart=>exact ⟨0,bf,Nat.zero_le _,rfl,rfl,H9.out,Fr.refl _ _⟩
 case round=>
  obtain ⟨i,bi,hi,rfl,rfl,hsp,hfr⟩:=hrel;obtain ⟨HSP,HFR⟩:=aN hsp hfr;clear hsp hfr
  by_cases hlt:i<cs.length
  ·obtain ⟨b,off,x,rfl,hx,hcl⟩:=HAT.out i hlt
   have hdr:cs.drop i=x :: cs.drop (i+1):=by
    rw [List.drop_eq_getElem_cons hlt]
    congr 1
    rw [List.getElem?_eq_getElem hlt] at hx;exact Option.some.inj hx
   have hs:=HSP.out;rw [hdr] at hs;simp only [agz,Bool.and_eq_true,decide_eq_true_eq] at hs;obtain ⟨⟨⟨⟨s1,s2⟩,s3⟩,s4⟩,s5⟩:=hs;have hv:=aj8.out x s1;rw [s1] at hv;obtain ⟨x0,x1,x2,x3,x4,x5,x6,x7⟩:=hcl wr (F1.out.ah HFR.out);have b1r:=B1.out.fr HFR.out id;have awt:g1<wr.heap.size:=b1r.lt;obtain ⟨y0,y1,y2,y3,_⟩:=aR b1r;obtain ⟨S5,HV,B1R⟩:=bC s5 hv b1r;obtain ⟨xep,xsq,xkd,xcl,xnm,xit,xky,xvl⟩:=x;simp only at x0 x1 x2 x3 x4 x5 x6 x7 s2 s3 s4 S5 HV;have hsq:Hid (xsq=sq+1+(i:Int)):=O s2;have hb:=H34.out;have d1:decide (xep<bi)=false:=dff;have d2:decide (ep<xep)=false:=dff;have d3:(xsq != sq+1+(i:Int))=false:=by simp [bne,s2]
   have hil:(i:Int)<4611686018427387904:=by unfold maxLen at*;omega
   clear hcl hx hdr s1 s2 s3 s4 s5 hv b1r
   go_wp2_with fail
   refine (HV.out _).mono ?_;rintro r v5 ⟨rfl,f5⟩;have b5:=(Blk.new wr TCh #[.int .i64 xep,.int .i64 xsq,.int .i64 xkd,.int .i64 xcl,.int .i64 xnm,.int .i64 xit,.string xky,.string xvl]).fr f5 id;have b15:=(B1R.out.fr (aj wr _) id).fr f5 id;have F5:=O ((HFR.out.alloc _).ah f5);generalize wr.heap.size=g5 at*;clear x0 x1 x2 x3 x4 x5 x6 x7 y0 y1 y2 y3 f5;have z0:=b5.cell 0;have z1:=b5.cell 1;obtain ⟨y0,y1,y2,y3,_⟩:=aR b15;simp only [List.getElem?_toArray,List.getElem?_cons_zero,List.getElem?_cons_succ] at z0 z1;clear b5 b15
   go_wp2_with fail
   go_roundw
   case rel=>exact ⟨i+1,xep,by omega,by go_num,rfl,by have:=S5.out;exact this,F5.out⟩
   case measure=>simp [intOf];omega
  ·go_wp2_with fail
   go_ret
   exact ⟨rfl,F1.out.ah HFR.out⟩
set_option maxHeartbeats 8000000 in
theorem uI {A:Option Addr}{c k:Nat}{l:List Ch}(hr:Rd w w.heap.size A (chV l))(hlc:l.length≤c)(hcm:c≤maxLen)(hk:k≤l.length)(ep:Int):
  Calls Tryz.prog 61 #[.slice A l.length c,.int .i64 (k:Int),.int .i64 ep] w fun e w' =>e= .returned (.bool (uJ l k ep))∧Fr No w w' :=by
 have hat:=fun i (hi:i<l.length)=>hr.lI hi;unfold maxLen at hcm;clear hr
 by_cases h0:k=0
 ·subst h0
  by_cases he:ep=0
  ·have hm:uJ l (0:Nat) ep=true:=by unfold uJ;rw [if_pos ⟨rfl,he⟩]
   rw [hm];subst he;clear hat hm
   go_in
   go_wp2_with fail
   go_ret
   exact ⟨rfl,Fr.refl _ _⟩
  ·have hm:uJ l (0:Nat) ep=false:=by unfold uJ;rw [if_neg (fun h=>he h.2),if_pos (.inl dcd)]
   rw [hm];have d1:(ep == 0)=false:=by simpa using he
   clear hat hm he
   go_in
   go_wp2_with fail
   go_ret
   exact ⟨rfl,Fr.refl _ _⟩
 ·obtain ⟨n,rfl⟩:∃n,k=n+1:=⟨k-1,by omega⟩
  obtain ⟨b,off,x,rfl,hx,hcl⟩:=hat n oy;have hm:uJ l ((n+1:Nat):Int) ep=(x.sq == ((n+1:Nat):Int) && x.ep == ep):=by
   unfold uJ;rw [if_neg oy,if_neg oy,show (((n+1:Nat):Int)-1).toNat=n from by omega,hx]
   rfl
  rw [hm];obtain ⟨x0,x1,x2,x3,x4,x5,x6,x7⟩:=hcl w (Fr.refl _ _);obtain ⟨K,hK⟩:∃K:Int,K=((n+1:Nat):Int):=⟨_,rfl⟩;rw [←hK];have hk1:K-1=(n:Int):=by omega
  have hk2:1≤K:=by omega
  have hk3:K≤(l.length:Int):=by omega
  have hk4:(K == 0)=false:=by simp;omega
  have hk5:(n:Int)<(l.length:Int):=by omega
  clear hcl hm hK hx hat h0;obtain ⟨xep,xsq,xkd,xcl,xnm,xit,xky,xvl⟩:=x;simp only at x0 x1 x2 x3 x4 x5 x6 x7 ⊢
  cases e1:xsq == K
  ·go_in
   go_wp2_with fail
   go_ret
   exact ⟨rfl,aj _ _⟩
  ·go_in
   go_wp2_with fail
   go_ret
   exact ⟨rfl,aj _ _⟩
theorem ano {w:World}(x:Ch)(g:Nat)(n:Int)(h:w.cell? ⟨g,0,none⟩=some (.int .i64 n))(hg:g<w.heap.size):
  Calls Tryz.prog 63 #[.agg #[.int .i64 x.ep,.int .i64 x.sq,.int .i64 x.kd,.int .i64 x.cl,.int .i64 x.nm,.int .i64 x.it,.string x.ky,.string x.vl],.pointer (some ⟨g,0,none⟩)] w fun e w' =>e= .returned (.bool (x.ep == n))∧Fr No w w' :=by
 have hne:g≠w.heap.size:=by omega
 go_in
 go_wp2
 go_ret
 exact ⟨aS rfl,aj _ _⟩
theorem amg {A:Option Addr}{c:Nat}{l:List Ch}(hr:Rd w w.heap.size A (chV l))(hlc:l.length≤c)(hcm:c≤maxLen)(g:Nat)(n:Int)(h:w.cell? ⟨g,0,none⟩=some (.int .i64 n))(hg:g<w.heap.size):
  Calls Tryz.prog 62 #[.slice A l.length c,.func (.func 63) #[] #[.pointer (some ⟨g,0,none⟩)]] w fun e w' =>e= .returned (.int .i64 (zA (fun t=>t.ep == n) l))∧Fr No w w' :=by
 have hat:=fun i (hi:i<l.length)=>hr.lI hi;have hp:=fun V (hV:Fr No w V) (x:Ch)=>ano (w:=V) x g n ((hV.cell (p:=⟨g,0,none⟩) hg id).trans h) (nll hg hV.size);unfold maxLen at hcm;clear hr h hg;obtain ⟨HAT,HP⟩:=aN hat hp;clear hat hp
 go_in
 go_wp2_with fail
 go_loopw [8] (fun i wr=>∃k:Nat,k≤l.length∧i= .int .i64 k∧(∀j x,j<k→l[j]? =some x→(x.ep == n)=false)∧Fr No w wr) (fun i _=>l.length-(intOf i).toNat)
 case atStart=>exact ⟨0,Nat.zero_le _,rfl,fun j x hj=>by omega,Fr.refl _ _⟩
 case round=>
  obtain ⟨k,hk,rfl,hno,hf⟩:=hrel;obtain ⟨hF,HNO⟩:=aN hf hno;clear hf hno
  by_cases hlt:k<l.length
  ·obtain ⟨b,off,x,rfl,hx,hcl⟩:=HAT.out k hlt
   obtain ⟨x0,x1,x2,x3,x4,x5,x6,x7⟩:=hcl wr hF.out;have hpx:=HP.out wr hF.out x;have HX:=O hx;obtain ⟨q,hq⟩:∃q,q=(x.ep == n):=⟨_,rfl⟩;rw [←hq] at hpx;have HQ:=O hq;obtain ⟨xep,xsq,xkd,xcl,xnm,xit,xky,xvl⟩:=x;simp only at x0 x1 x2 x3 x4 x5 x6 x7 hpx;have HPX:=O hpx;clear hcl hpx hx hq
   go_wp2_with fail
   refine HPX.out.mono ?_;rintro e w5 ⟨rfl,f5⟩;have F5:=O (hF.out.ah f5);clear f5 x0 x1 x2 x3 x4 x5 x6 x7 hF
   rcases q with _|_
   ·go_wp2_with fail
    go_roundw
    case rel=>exact ⟨k+1,by omega,by go_num,fun j y hj hy=>(by
     rcases Nat.lt_or_ge j k with h|h
     ·exact HNO.out j y h hy
     ·have:j=k:=by omega
      subst this;rw [HX.out] at hy
      cases hy
      exact HQ.out.symm),F5.out⟩
    case measure=>simp [intOf];omega
   ·have HI:=O (abp (p:=fun t:Ch=>t.ep == n) HX.out HNO.out HQ.out.symm)
    go_wp2_with fail
    go_ret
    exact ⟨by rw [HI.out];rfl,F5.out⟩
  ·obtain rfl:k=l.length:=by omega
   have HI:=O (abo (p:=fun t:Ch=>t.ep == n) HNO.out)
   go_wp2_with fail
   go_ret
   exact ⟨by rw [HI.out];rfl,hF.out⟩
end
section
set_option linter.unusedSimpArgs false
variable {w w' :World}{F G:Nat→Prop}
set_option maxHeartbeats 8000000 in
theorem yj {l:Nat}{ep lag ak:Int}{D:DataW Unit}(h:aL w F l ep lag ak D)(k:Int)(h0:0≤k)(h1:k<16)(hs:Value)(hh:Maps.has D (kI k)=false):
  Calls Tryz.prog 25 #[.pointer (some ⟨l,0,none⟩),.int .i64 k,hs] w fun e w' =>e= .returned (.tuple #[.agg #[.int .i64 0,.int .i64 0,.int .i64 0,.slice none 0 0],.bool false])∧Fr No w w' :=by
 obtain ⟨m,f1,f2,hne,hz4,hp⟩:=h.parts;have hown:=(hp w (Fr.refl _ _)).2;obtain ⟨p',hat',iL⟩:=qh hown h0 h1;rw [hh] at iL;have amt:=iL (w.alloc (.cells #[.int .i64 0,.int .i64 0,.int .i64 0,.slice none 0 0] TSh)) _ (hp _ (aj _ _)).2;obtain ⟨c0,c1,c2,c3⟩:=fJ (hp (w.alloc (.cells #[.int .i64 0,.int .i64 0,.int .i64 0,.slice none 0 0] TSh)) (aj _ _)).1;obtain ⟨prq,pap,pnx⟩:=p';obtain ⟨w2,hw2⟩:∃w2,w2=(w.alloc (.cells #[.int .i64 0,.int .i64 0,.int .i64 0,.slice none 0 0] TSh)).alloc (.cells #[.bool prq,.int .i64 pap,.int .i64 pnx] TPg):=⟨_,rfl⟩;obtain ⟨g6,hg6⟩:∃g,g=w.heap.size:=⟨_,rfl⟩;obtain ⟨g8,hg8⟩:∃g,g=w.heap.size+1:=⟨_,rfl⟩;have f2_:Fr No w w2:=by rw [hw2];exact (aj _ _).alloc _
 have b6:Blk w2 g6 TSh #[.int .i64 0,.int .i64 0,.int .i64 0,.slice none 0 0]:=by rw [hw2,hg6];exact (Blk.new _ _ _).fr (aj _ _) id
 have amy:w.heap.size≤g6:=by omega
 obtain ⟨F2,B6⟩:=aN f2_ b6;clear iL hown hp h hat' f2_ b6;obtain ⟨HW2,HG6,HG8⟩:=bC hw2 hg6 hg8;clear hw2 hg6 hg8
 go_in
 go_upto_region 2 with fail
 rw [←HG8.out,←HG6.out,←HW2.out];clear amt c0 c1 c2 c3;obtain ⟨x0,x1,x2,x3,fz0,fz1,fz2,fz3⟩:=aR B6.out
 go_wp2_with fail
 have hb:Blk (World.setCell (World.setCell (World.setCell (World.setCell w2 ⟨g6,0,none⟩ (.int .i64 0)) ⟨g6,1,none⟩ (.int .i64 0)) ⟨g6,2,none⟩ (.int .i64 0)) ⟨g6,3,none⟩ (.slice none 0 0)) g6 TSh #[.int .i64 0,.int .i64 0,.int .i64 0,.slice none 0 0]:=Blk.cv (Blk.aC (Blk.aC (Blk.aC (Blk.aC B6.out 0 _) 1 _) 2 _) 3 _) (by simp);exact bodyPost_ret (iA 6 7 _ _ _ _ _ _ hb rfl rfl rfl) rfl ⟨rfl,(F2.out.mono fun _ h=>h.elim:Fr No w w2).trans (dI _ _ _ _) fun i h=> .inr oy⟩
abbrev THd:TypeId:=80
theorem qo {V:World}{g:Nat}{a b c:Value}(h:Blk V g THd #[a,b,c]):V.cell? ⟨g,0,none⟩=some a∧V.cell? ⟨g,1,none⟩=some b∧V.cell? ⟨g,2,none⟩=some c:=⟨h.cell 0,h.cell 1,h.cell 2⟩
set_option maxHeartbeats 8000000 in
theorem xq {l:Nat}{ep lag ak:Int}{D:DataW Unit}(h:aL w F l ep lag ak D)(k:Int)(h0:0≤k)(h1:k<16)(a:Hd)(p:Pg)(hh:Maps.has D (kI k)=true)(hat:D.atKey (kI k) (pgD pg0)=pgD p)(hep:a.ep=ep)(ha0:0≤a.ap)(ha1:a.ap≤4096):
  Calls Tryz.prog 27 #[.pointer (some ⟨l,0,none⟩),.int .i64 k,.agg #[.int .i64 a.ep,.int .i64 a.ap,.bool a.ok]] w fun e w' =>e= .returned (.bool true)∧aL w' F l ep lag ak (D.put (kI k) (pgD (gZ p a)))∧Fr F w w' :=by
 obtain ⟨m,f1,f2,hne,hz4,hp⟩:=h.parts;have hown:=(hp w (Fr.refl _ _)).2;obtain ⟨p',hat',iL⟩:=qh hown h0 h1;obtain rfl:=uy (hat.symm.trans hat');rw [hh] at iL;have aqe:=(jG hown (kI k) (pgD (gZ p a))).2 hh;have hkey:=afe h0 h1;have hfin:=fun (V W:World) (n:Nat) (hV:Fr No w V) (ht:Fr (fun i=>i=m) V W) (ho:W.ownsMap Tryz.prog TI_ pR m n (D.put (kI k) (pgD (gZ p a))))=>aL.turned f1 f2 hne hV (hp V hV).1 ht ho oy;have hmax:Maps.size D<maxLen:=by unfold maxLen;omega
 have hhe:gZ p a=if a.ok then {p with ap:=max p.ap a.ap,nx:=max p.ap a.ap} else {p with nx:=max (min p.nx a.ap) p.ap}:=rfl
 generalize gZ p a=P' at*;obtain ⟨prq,pap,pnx⟩:=p;obtain ⟨aep,aap,aok⟩:=a;simp only at hep ha0 ha1 iL hhe;subst hep;obtain ⟨w2,hw2⟩:∃w2,w2=(w.alloc (.cells #[.int .i64 aep,.int .i64 aap,.bool aok] THd)).alloc (.cells #[.bool prq,.int .i64 pap,.int .i64 pnx] TPg):=⟨_,rfl⟩;obtain ⟨g5,hg5⟩:∃g,g=w.heap.size:=⟨_,rfl⟩;obtain ⟨g7,hg7⟩:∃g,g=w.heap.size+1:=⟨_,rfl⟩;have f2_:Fr No w w2:=by rw [hw2];exact (aj _ _).alloc _
 have b5:Blk w2 g5 THd #[.int .i64 aep,.int .i64 aap,.bool aok]:=by rw [hw2,hg5];exact (Blk.new _ _ _).fr (aj _ _) id
 have b7:Blk w2 g7 TPg #[.bool prq,.int .i64 pap,.int .i64 pnx]:=by rw [hw2,hg7];exact Blk.newG _ _ _ (by simp)
 have amt:=iL (w.alloc (.cells #[.int .i64 aep,.int .i64 aap,.bool aok] THd)) _ (hp _ (aj _ _)).2;obtain ⟨c0,c1,c2,c3⟩:=fJ (hp (w.alloc (.cells #[.int .i64 aep,.int .i64 aap,.bool aok] THd)) (aj _ _)).1;have aqw:w.heap.size≤g7:=by omega
 have d1:decide (aap<0)=false:=dff;have d2:decide (4096<aap)=false:=dff;obtain ⟨F2,B5,B7⟩:=bC f2_ b5 b7;clear iL hown h hat hat' f2_ b5 b7 ha0 ha1 aqe hne hz4 hh h0 h1;obtain ⟨HW2,HG5,HG7,HKEY,eu,ao8,HHE,HP⟩:=aou hw2 hg5 hg7 hkey hfin hmax hhe hp;clear hw2 hg5 hg7 hkey hfin hmax hhe hp
 go_in
 go_upto_region 2 with fail
 rw [←HG7.out,←HG5.out,←HW2.out];clear amt c0 c1 c2 c3;obtain ⟨x0,x1,x2⟩:=qo B5.out;obtain ⟨c0,c1,c2,c3⟩:=fJ (HP.out _ F2.out).1
 go_quiet (fail)
 have f3:Fr No w2 (w2.drewN nq):=(Fr.refl _ _).drewN _;generalize w2.drewN nq=w3 at f3 ⊢;obtain ⟨F3,B73⟩:=aN (F2.out.ah f3) (B7.out.fr f3 id);have b53:=B5.out.fr f3 id;clear x0 x1 x2 c0 c1 c2 c3;obtain ⟨x0,x1,x2⟩:=qo b53;obtain ⟨y0,y1,y2⟩:=lQ B73.out;have z1:=B73.out.frozen 1;have z2:=B73.out.frozen 2;have awh:¬g5=g7:=by have:=HG5.out;have:=HG7.out;omega
 clear b53 f3
 cases aok
 ·go_upto_region 8 with fail
  clear x0 x1 x2 y0 y1 y2 z1 z2;have ajp:P' =⟨prq,pap,max (min pnx aap) pap⟩:=HHE.out.trans (if_neg (by simp));have he1:(if (if aap<pnx then aap else pnx)<pap then pap else if aap<pnx then aap else pnx)=max (min pnx aap) pap:=by (repeat split)<;>omega
  have hb4:Blk (World.setCell w3 ⟨g7,2,none⟩ (.int .i64 (if (if aap<pnx then aap else pnx)<pap then pap else if aap<pnx then aap else pnx))) g7 TPg #[.bool prq,.int .i64 P'.ap,.int .i64 P'.nx]:=by
   rw [ajp];exact Blk.cv (B73.out.aC 2 _) (by simp [he1])
  have hf4:Fr No w (World.setCell w3 ⟨g7,2,none⟩ (.int .i64 (if (if aap<pnx then aap else pnx)<pap then pap else if aap<pnx then aap else pnx))):=F3.out.setCell (.inr aqw) _;generalize (World.setCell w3 ⟨g7,2,none⟩ (.int .i64 (if (if aap<pnx then aap else pnx)<pap then pap else if aap<pnx then aap else pnx)))=w4 at*;obtain ⟨qrq,qap,qnx⟩:=P';have hrq:qrq=prq:=by injection ajp
  subst hrq;simp only at hb4;obtain ⟨y0,y1,y2⟩:=lQ hb4;obtain ⟨c0,c1,c2,c3⟩:=fJ (HP.out _ hf4).1;have F4:=O hf4;clear hf4 hb4 ajp
  go_still_tail 6,(by kernel_rfl)
  repeat still_step
  try refine wpStill_nil ?_
  change wpList _ _ _ _ _ w4.drew
  go_wp2_with (at_mapUpdate;refine wpList_mapUpdate_in _ rfl _ _ _ aku rfl TI_ TPg (Maps.int_keyed Tryz.underlying3) Tryz.underlying151 pR m _ D rfl (HP.out _ F4.out.drew).2 ao8.out _ _ _ rfl rfl HKEY.out (pgD ⟨qrq,qap,qnx⟩) [] rfl ?_;intro w5 ho5 ht5;have HFI:=O (eu.out _ _ _ F4.out.drew (iW ht5) ho5);clear ho5 ht5)
  all_goals go_ret
  all_goals exact ⟨rfl,HFI.out⟩
 ·go_upto_region 8 with fail
  clear x0 x1 x2 y0 y1 y2 z1 z2;have ajp:P' =⟨prq,max pap aap,max pap aap⟩:=HHE.out.trans (if_pos rfl);have he1:(if pap<aap then aap else pap)=max pap aap:=by (repeat split)<;>omega
  have hb4:Blk (World.setCell (World.setCell w3 ⟨g7,1,none⟩ (.int .i64 (if pap<aap then aap else pap))) ⟨g7,2,none⟩ (.int .i64 (if pap<aap then aap else pap))) g7 TPg #[.bool prq,.int .i64 P'.ap,.int .i64 P'.nx]:=by
   rw [ajp];exact Blk.cv ((B73.out.aC 1 _).aC 2 _) (by simp [he1])
  have hf4:Fr No w (World.setCell (World.setCell w3 ⟨g7,1,none⟩ (.int .i64 (if pap<aap then aap else pap))) ⟨g7,2,none⟩ (.int .i64 (if pap<aap then aap else pap))):=(F3.out.setCell (.inr aqw) _).setCell (.inr aqw) _;generalize (World.setCell (World.setCell w3 ⟨g7,1,none⟩ (.int .i64 (if pap<aap then aap else pap))) ⟨g7,2,none⟩ (.int .i64 (if pap<aap then aap else pap)))=w4 at*;obtain ⟨qrq,qap,qnx⟩:=P';have hrq:qrq=prq:=by injection ajp
  subst hrq;simp only at hb4;obtain ⟨y0,y1,y2⟩:=lQ hb4;obtain ⟨c0,c1,c2,c3⟩:=fJ (HP.out _ hf4).1;have F4:=O hf4;clear hf4 hb4 ajp
  go_still_tail 6,(by kernel_rfl)
  repeat still_step
  try refine wpStill_nil ?_
  change wpList _ _ _ _ _ w4.drew
  go_wp2_with (at_mapUpdate;refine wpList_mapUpdate_in _ rfl _ _ _ aku rfl TI_ TPg (Maps.int_keyed Tryz.underlying3) Tryz.underlying151 pR m _ D rfl (HP.out _ F4.out.drew).2 ao8.out _ _ _ rfl rfl HKEY.out (pgD ⟨qrq,qap,qnx⟩) [] rfl ?_;intro w5 ho5 ht5;have HFI:=O (eu.out _ _ _ F4.out.drew (iW ht5) ho5);clear ho5 ht5)
  all_goals go_ret
  all_goals exact ⟨rfl,HFI.out⟩
end
section
set_option linter.unusedSimpArgs false
variable {w w' :World}{F G:Nat→Prop}
abbrev TFw:TypeId:=150
theorem aft {V:World}{g:Nat}{a b c:Value}(h:Blk V g TFw #[a,b,c]):V.cell? ⟨g,0,none⟩=some a∧V.cell? ⟨g,1,none⟩=some b∧V.cell? ⟨g,2,none⟩=some c:=⟨h.cell 0,h.cell 1,h.cell 2⟩
theorem oF (w:World)(p:Nat):Calls Tryz.prog 21 #[.pointer (some ⟨p,0,none⟩)] w fun e w' =>∃f,e= .returned (.pointer (some ⟨f,0,none⟩))∧Blk w' f TFw #[.pointer (some ⟨p,0,none⟩),.int .i64 0,.int .i64 0]∧w.heap.size≤f∧Fr No w w' :=by
 go_in
 go_wp2_with fail
 go_ret
 exact ⟨_,rfl,Blk.newG _ _ _ rfl,Nat.le_refl _,aj _ _⟩
def iV (w2:World)(F:Nat→Prop)(f p:Nat)(s a:Int)(c:Kp)(W:World):Prop:=
 Blk W f TFw #[.pointer (some ⟨p,0,none⟩),.int .i64 s,.int .i64 a]∧∃F',aM W F' p c∧(∀i,F' i→F i∨w2.heap.size≤i)∧Fr (fun i=>F i∨i=f) w2 W
theorem iV.step {w2:World}{f p:Nat}{s a:Int}{c:Kp}{W V:World}(h:iV w2 F f p s a c W)(hV:Fr No W V):iV w2 F f p s a c V:=by
 obtain ⟨b,F',k,s1,g⟩:=h;exact ⟨b.fr hV id,F',k.au hV,s1,g.trans hV fun _ h=>h.elim⟩
theorem iV.call {w2:World}{f p:Nat}{s a:Int}{c:Kp}{W V:World}(h:iV w2 F f p s a c W)(hf:¬F f)(hf2:f<w2.heap.size)(hV:Fr No W V):∃F',aM V F' p c∧(∀i,F' i→i<W.heap.size)∧∀d V',CTo V F' p d V'→iV w2 F f p s a d V'∧Fr F' V V' :=by
 obtain ⟨b,F',k,s1,g⟩:=h;refine ⟨F',k.au hV,k.lt,fun d V' ⟨F2,k2,s2,g2⟩=>⟨⟨(b.fr hV id).fr g2 (fun e=> ?_),F2,k2,fun i hi=> ?_,(g.trans hV fun _ h=>h.elim).trans g2 fun i hi=> ?_⟩,g2⟩⟩
 ·rcases s1 f e with h|h
  ·exact hf h
  ·omega
 ·rcases s2 i hi with h|h
  ·exact s1 i h
  ·exact .inr (Nat.le_trans (g.trans hV fun _ h=>h.elim).size h)
 ·rcases s1 i hi with h|h
  ·exact .inl (.inl h)
  ·exact .inr h
theorem iV.aC {w2:World}{f p:Nat}{s a s' a' :Int}{c:Kp}{W V:World}(h:iV w2 F f p s a c W)(hf:¬F f)(hf2:f<w2.heap.size)(hV:Fr (fun i=>i=f) W V)(hb:Blk V f TFw #[.pointer (some ⟨p,0,none⟩),.int .i64 s',.int .i64 a']):iV w2 F f p s' a' c V:=by
 obtain ⟨b,F',k,s1,g⟩:=h;refine ⟨hb,F',k.fr hV (fun i hi e=> ?_),s1,g.trans hV fun i hi=> .inl (.inr hi)⟩;subst e
 rcases s1 i hi with h|h
 ·exact hf h
 ·omega
def ax1 (w:World)(F:Nat→Prop)(f p:Nat)(t:FlT)(e:Ending)(w' :World):Prop:=
 e= .returned (.tuple #[.agg #[.int .i64 t.r.ep,.int .i64 t.r.ap,.bool t.r.ok],.int .i64 0])∧iV w F f p t.seen t.agr t.c w'
theorem sJ {V:World}{g:Nat}{a b c:Value}(h:Blk V g THd #[a,b,c]):V.cell? ⟨g,0,none⟩=some a∧V.cell? ⟨g,1,none⟩=some b∧V.cell? ⟨g,2,none⟩=some c∧V.frozen? ⟨g,0,none⟩=false∧V.frozen? ⟨g,1,none⟩=false∧V.frozen? ⟨g,2,none⟩=false:=⟨h.cell 0,h.cell 1,h.cell 2,h.frozen 0,h.frozen 1,h.frozen 2⟩
theorem jl {f:Func}(k j:Nat){g:Nat}(a b c e:Value)(ts:Array Value){W:World}(hb:Blk W g THd #[a,b,c])(h2:ts[k]?.getD undef= .pointer (some ⟨g,0,none⟩))(h3:ts[j]?.getD undef=e)(hr:f.results= #[.cell k THd,.tmp j]):(results f ts).run Tryz.prog W= .ok (.tuple #[.agg #[a,b,c],e]) W:=by
 obtain ⟨c0,c1,c2⟩:=qo hb
 simp [results,hr,go_sem,h2,h3,c0,c1,c2]
theorem ala {w2 W:World}{f p g4:Nat}{s a:Int}{c:Kp}{z1 z2 z3:Value}(h:iV w2 F f p s a c W)(f12:Fr No w w2)(hF:∀i,F i→i<w.heap.size)(hfw:f<w.heap.size)(h4:w.heap.size≤g4)(h42:g4<w2.heap.size)(b4:Blk W g4 THd #[z1,z2,z3])(x y z:Value):
  Blk (World.setCell (World.setCell (World.setCell W ⟨g4,0,none⟩ x) ⟨g4,1,none⟩ y) ⟨g4,2,none⟩ z) g4 THd #[x,y,z]∧iV w F f p s a c (World.setCell (World.setCell (World.setCell W ⟨g4,0,none⟩ x) ⟨g4,1,none⟩ y) ⟨g4,2,none⟩ z):=by
 have hs:Fr (fun i=>i=g4) W (World.setCell (World.setCell (World.setCell W ⟨g4,0,none⟩ x) ⟨g4,1,none⟩ y) ⟨g4,2,none⟩ z):=(((Fr.refl (fun i=>i=g4) W).setCell (p:=⟨g4,0,none⟩) (.inl rfl) _).setCell (p:=⟨g4,1,none⟩) (.inl rfl) _).setCell (p:=⟨g4,2,none⟩) (.inl rfl) _;obtain ⟨b,F',k,s1,g⟩:=h;refine ⟨Blk.cv (Blk.aC (Blk.aC (Blk.aC b4 0 _) 1 _) 2 _) (by simp),b.fr hs (fun e=>by subst e;omega),F',k.fr hs (fun i hi e=> ?_),fun i hi=> ?_,(((f12.mono fun _ h=>h.elim).trans g fun i hi=> .inl hi).trans hs fun i hi=> .inr (by subst hi;exact h4))⟩
 ·subst e
  rcases s1 i hi with h|h
  ·have:=hF i h;omega
  ·omega
 ·rcases s1 i hi with h|h
  ·exact .inl h
  ·exact .inr (Nat.le_trans f12.size h)
end
section
set_option linter.unusedSimpArgs false
variable {w w' :World}{F G:Nat→Prop}
theorem agy {sq ep:Int}:∀(l:List Ch) (i:Nat) (bf:Int),agz sq ep l i bf=true→∀(j:Nat) (x:Ch),l[j]? =some x→chB x=true∧x.sq=sq+1+((i+j:Nat):Int):=by
 intro l
 induction l with
 |nil=>intro i bf _ j x h;simp at h
 |cons y l ih=>
  intro i bf h j x hx;simp only [agz,Bool.and_eq_true,decide_eq_true_eq] at h;obtain ⟨⟨⟨⟨s1,s2⟩,s3⟩,s4⟩,s5⟩:=h
  cases j with
  |zero=>
   simp at hx
   subst hx;exact ⟨s1,by rw [s2];omega⟩
  |succ j=>
   obtain ⟨a,b⟩:=ih (i+1) y.ep s5 j x (by simpa using hx);exact ⟨a,by rw [b];omega⟩
theorem aao (its:List It)(les:List Le)(gr:Int)(x:Ch):(gD its les gr x).2.2.1.length≤les.length:=by
 unfold gD
 repeat' split
 all_goals first|exact Nat.le_refl _|exact List.length_filter_le _ _
theorem rZ (s:Nw)(x:Ch):(cu s x).2.les.length≤s.les.length:=by
 unfold cu
 repeat' split
 all_goals first|exact Nat.le_refl _|exact aao _ _ _ _
structure KpB (c:Kp):Prop where
 h:c.h.length≤4200
 its:c.nw.its.length≤16
 les:c.nw.les.length≤1000000
 ch:∀x∈c.h,x.ky.size≤maxLen∧x.vl.size≤maxLen
theorem ab8 (l:List Ch):∀s:Nw,s.its.length≤16→(l.foldl (fun s x=>(cu s x).2) s).its.length≤16:=by
 induction l with
 |nil=>intro s h;exact h
 |cons x l ih=>intro s h;exact ih _ (mP s x h)
theorem ab7 (l:List Ch):∀s:Nw,(l.foldl (fun s x=>(cu s x).2) s).les.length≤s.les.length:=by
 induction l with
 |nil=>intro s;exact Nat.le_refl _
 |cons x l ih=>intro s;exact Nat.le_trans (ih _) (rZ s x)
theorem KpB.trunc {c:Kp}(h:KpB c)(n:Nat):KpB (aO c n):=by
 refine ⟨?_,ab8 _ _ dcd,Nat.le_trans (ab7 _ _) dcd,fun x hx=>h.ch x (List.mem_of_mem_take hx)⟩;have:=h.h;simp only [aO,List.length_take]
 omega
theorem KpB.apply {c:Kp}(h:KpB c){x:Ch}(hx:x.ky.size≤maxLen∧x.vl.size≤maxLen)(hl:c.h.length<4200):KpB (aH c x).2:=by
 unfold aH
 repeat' split
 ·exact h
 ·exact h
 ·exact h
 ·refine ⟨by simp;omega,mP _ _ h.its,Nat.le_trans (rZ _ _) h.les,fun y hy=> ?_⟩
  rcases List.mem_append.1 hy with e|e
  ·exact h.ch y e
  ·simp at e;rw [e];exact hx
theorem acv {x:Ch}(h:chB x=true):x.ky.size≤maxLen∧x.vl.size≤maxLen:=by
 have:=nC h;unfold maxLen
 omega
theorem vD {c:Kp}{x:Ch}(h:(aH c x).1=0):(aH c x).2.h=c.h++[x]∧x.sq=(c.h.length:Int)+1:=by
 unfold aH at h ⊢
 split at h
 ·simp at h
 ·rename_i h1
  rw [if_neg h1]
  split at h
  ·simp at h
  ·rename_i h2
   rw [if_neg h2]
   split at h
   ·rename_i h3;exact absurd h h3
   ·rename_i h3
    rw [if_neg h3];simp only [Bool.or_eq_true,decide_eq_true_eq,not_or] at h2;exact ⟨rfl,by have:=h2.1;simpa using this⟩
end
section
set_option linter.unusedSimpArgs false
structure Fo where
 c:Kp
 seen:Int
 agr:Int
structure Pr where
 e:Int
 lag:Int
 ak:Int
 pg:Nat→Option Pg
 home:Kp
 fo:Nat→Fo
 sh:Nat→List Sh
 hd:Nat→List Hd
 nu:List Int
 dS:Int
 mc:Nat→Int×Int×List Wn
def fD {α:Type}(f:Nat→α)(i:Nat)(x:α):Nat→α:=fun j=>if j=i then x else f j
theorem upd_same {α:Type}(f:Nat→α)(i:Nat)(x:α):fD f i x i=x:=if_pos rfl
theorem aF {α:Type}(f:Nat→α){i j:Nat}(x:α)(h:j≠i):fD f i x j=f j:=if_neg h
def kS:ByteArray:=⟨#[107]⟩
def vS:ByteArray:=⟨#[118]⟩
def qQ (P:Pr)(cl op:Int):Rq:=⟨0,cl % 4+1,P.nu.getD (cl % 4).toNat 0+1,if op % 2=0 then 4 else 2,0,if op % 2=0 then noS else kS,vS⟩
def fC (P:Pr)(cl op:Int):Pr:=
 {P with home:=(exF P.home 0 5 (qQ P cl op)).2,nu:=if (exF P.home 0 5 (qQ P cl op)).1.er=0 then P.nu.set (cl % 4).toNat (P.nu.getD (cl % 4).toNat 0+1) else P.nu}
def sh0:Sh:=⟨0,0,0,[]⟩
def pick {α:Type}(l:List α)(b:Int)(d:α):α:=l.getD (b % (l.length:Int)).toNat d
def lY (P:Pr)(i:Nat)(m:Sh):Pr:=
 {P with fo:=fD P.fo i ⟨(bS (P.fo i).seen (P.fo i).agr (P.fo i).c m).c,(bS (P.fo i).seen (P.fo i).agr (P.fo i).c m).seen,(bS (P.fo i).seen (P.fo i).agr (P.fo i).c m).agr⟩,hd:=if (bS (P.fo i).seen (P.fo i).agr (P.fo i).c m).er=0 then fD P.hd i (P.hd i++[(bS (P.fo i).seen (P.fo i).agr (P.fo i).c m).r]) else P.hd}
def aQ (P:Pr)(wh a b:Int):Pr:=
 let i:=(a % 2).toNat
 if wh % 8≤1 then fC P a b
 else if wh % 8≤3 then (match P.pg i with|none=>P|some p=>{P with sh:=fD P.sh i (P.sh i++[dz P.e p P.home.h])})
 else if wh % 8≤5 then (if (P.sh i).length=0 then P else lY P i (pick (P.sh i) b sh0))
 else if wh % 8=6 then (if (P.hd i).length=0 then P else match P.pg i with|none=>P|some p=>{P with pg:=fD P.pg i (some (gZ p (pick (P.hd i) b hd0)))})
 else P
structure iI (P:Pr) (n:Nat):Prop where
 ok:kF P.home
 b:KpB P.home
 hl:P.home.h.length≤n
 e1:1≤P.e
 e2:P.e≤1048576
 acc:lV P.home.ws 0 5=P.e
 ten:P.home.ten=0
 hep:∀x∈P.home.h,x.ep≤P.e
 nuL:P.nu.length=4
 nu:∀i,0≤P.nu.getD i 0∧P.nu.getD i 0≤n
 ak0:0≤P.ak
 ak1:P.ak≤P.home.h.length
 ack:P.dS≤P.ak
 ahr:0≤P.dS
 lag: -1≤P.lag
 mt:∀i,i<2→(P.fo i).c.cell=(P.mc i).1∧(P.fo i).c.cd=(P.mc i).2.1∧(P.fo i).c.ws=(P.mc i).2.2
 fl:∀i,i<2→xL P.e P.home.h (P.fo i).seen (P.fo i).agr (P.fo i).c∧KpB (P.fo i).c∧(P.fo i).c.h.length≤n∧(P.fo i).c.ten=0
 sh:∀i,i<2→(P.sh i).length≤n∧∀m∈P.sh i,ade P.e P.home.h m
 hd:∀i,i<2→(P.hd i).length≤n∧∀a∈P.hd i,adq P.e a (P.fo i).agr (P.fo i).c
 pg:∀i,i<2→match P.pg i with|none=>P.sh i=[]∧P.hd i=[]|some p=>adf P.e p (P.fo i).agr (P.fo i).c
theorem KpB.wr {c:Kp}(h:KpB c){ep t:Int}{r:Rq}(hk:r.ky.size≤maxLen)(hv:r.vl.size≤maxLen)(hl:c.h.length<4200):KpB (wrF c ep t r).2:=by
 unfold wrF
 repeat' split
 all_goals first|exact h|skip
 all_goals
  simp only
  split
  all_goals exact h.apply (x:=⟨_,_,_,_,_,_,_,_⟩) ⟨hk,hv⟩ hl
theorem KpB.ex {c:Kp}(h:KpB c){v t:Int}{r:Rq}(hk:r.ky.size≤maxLen)(hv:r.vl.size≤maxLen)(h5:r.op≠5)(hl:c.h.length<4200):KpB (exF c v t r).2:=by
 unfold exF;rw [if_neg h5]
 repeat' split
 all_goals first|exact h|exact h.wr hk hv hl
theorem zS {P:Pr}{n:Nat}(h:iI P n)(hn:n≤1000)(cl op:Int):rqB (qQ P cl op)=true∧(qQ P cl op).tn=P.home.ten∧(qQ P cl op).op≠5∧(qQ P cl op).ky.size≤maxLen∧(qQ P cl op).vl.size≤maxLen:=by
 have h1:=h.nu (cl % 4).toNat;have h2:0≤cl % 4∧cl % 4<4:=⟨Int.emod_nonneg _ dcd,Int.emod_lt_of_pos _ dcd⟩;have e1:kS.size=1:=rfl;have e2:vS.size=1:=rfl;have e3:noS.size=0:=rfl;have h3:=h.ten;generalize hx:P.nu.getD (cl % 4).toNat 0=x at h1;unfold qQ rqB btw iF iP;rw [hx,h3]
 by_cases ho:op % 2=0
 ·simp only [ho,if_true,e2,e3]
  refine ⟨?_,trivial,by decide,by unfold maxLen;omega,by unfold maxLen;omega⟩
  simp
  omega
 ·simp only [ho,if_false,e2,e1]
  refine ⟨?_,trivial,by decide,by unfold maxLen;omega,by unfold maxLen;omega⟩
  simp
  omega
theorem ah9 {H0:List Ch}:∀(l:List Ch) (c:Kp) (ap:Int),KpB c→(∀x∈l,chB x=true∧x.sq≤4150)→KpB (gK H0 l c ap).1:=by
 intro l
 induction l with
 |nil=>intro c ap h _;exact h
 |cons x l ih=>
  intro c ap h hx;obtain ⟨h1,h2⟩:=hx x (List.mem_cons_self ..);have hl:∀y∈l,chB y=true∧y.sq≤4150:=fun y hy=>hx y (List.mem_cons_of_mem _ hy);have ha:KpB (aH (aO c (x.sq-1).toNat) x).2:=(h.trunc _).apply (acv h1) (by simp only [aO,List.length_take];omega);rw [gK]
  split
  ·split
   ·exact ha
   ·exact ih _ _ ha hl
  ·exact ih _ _ h hl
theorem afw {seen agr:Int}{c:Kp}{m:Sh}(h:KpB c)(hm:shB m=true):KpB (bS seen agr c m).c:=by
 have hx:∀x∈m.cs,chB x=true∧x.sq≤4150:=by
  simp only [shB,btw,Bool.and_eq_true,decide_eq_true_eq] at hm;obtain ⟨⟨⟨⟨⟨⟨h1,h2⟩,h3,h4⟩,h5,h6⟩,h7⟩,h8⟩,h9⟩:=hm;intro x hx;obtain ⟨j,hj⟩:=List.getElem?_of_mem hx;have hlt:=(List.getElem?_eq_some_iff.1 hj).1;obtain ⟨a,b⟩:=agy m.cs 0 m.bf h9 j x hj;exact ⟨a,by omega⟩
 unfold bS
 repeat' split
 all_goals first|exact h|skip
 all_goals
  refine ah9 _ _ _ ?_ hx
  first|exact h.trunc _|exact h
theorem adt {P:Pr}{n:Nat}(h:iI P n)(hn:n≤1000)(cl op:Int):iI (fC P cl op) (n+1):=by
 obtain ⟨r1,r2,r3,r4,r5⟩:=zS h hn cl op;have E:=anf h.ok 0 5 (qQ P cl op);rw [h.acc] at E;have hb:=h.b.ex (v:=0) (t:=5) r4 r5 r3 (by have:=h.hl;omega);generalize hX:exF P.home 0 5 (qQ P cl op)=X at E hb;have e0:(fC P cl op).home=X.2:=by simp only [fC,hX]
 have hlen:X.2.h.length≤P.home.h.length+1∧P.home.h.length≤X.2.h.length:=by
  rcases E.h with e|⟨x,e,_⟩
  ·rw [e];omega
  ·rw [e,List.length_append];simp
 have hgr:∀{A:List Ch→Prop},A P.home.h→(∀x,x.ep=P.e→A (P.home.h++[x]))→A X.2.h:=fun ha hs=>by
  rcases E.h with e|⟨x,e,he⟩
  ·rw [e];exact ha
  ·rw [e];exact hs x he
 refine ⟨?_,?_,?_,h.e1,h.e2,?_,?_,?_,?_,?_,h.ak0,?_,h.ack,h.ahr,h.lag,h.mt,fun i hi=> ?_,fun i hi=> ?_,fun i hi=> ?_,h.pg⟩
 ·rw [e0];exact E.ok
 ·rw [e0];exact hb
 ·rw [e0];have:=h.hl;omega
 ·rw [e0,E.ws];exact h.acc
 ·rw [e0,E.ten];exact h.ten
 ·rw [e0]
  rcases E.h with e|⟨x,e,he⟩
  ·rw [e];exact h.hep
  ·rw [e]
   intro y hy
   rcases List.mem_append.1 hy with hy|hy
   ·exact h.hep y hy
   ·simp at hy;rw [hy,he];exact Int.le_refl _
 ·simp only [fC]
  split
  ·rw [List.length_set];exact h.nuL
  ·exact h.nuL
 ·intro i
  simp only [fC];have h1:=h.nu i;have h2:=h.nu (cl % 4).toNat
  split
  ·rw [List.getD_eq_getElem?_getD,List.getElem?_set]
   split
   ·split
    ·simp only [Option.getD_some];omega
    ·simp only [Option.getD_none];omega
   ·rw [←List.getD_eq_getElem?_getD];omega
  ·omega
 ·rw [e0];have:=h.ak1;show P.ak≤_;omega
 ·obtain ⟨f1,f2,f3,f4⟩:=h.fl i hi
  rw [e0];exact ⟨hgr (A:=fun H=>xL P.e H (P.fo i).seen (P.fo i).agr (P.fo i).c) f1 (fun x hx=>f1.grow hx),f2,by show (P.fo i).c.h.length≤n+1;omega,f4⟩
 ·obtain ⟨f1,f2⟩:=h.sh i hi
  rw [e0];exact ⟨by show (P.sh i).length≤n+1;omega,fun m hm=>hgr (A:=fun H=>ade P.e H m) (f2 m hm) (fun x hx=>(f2 m hm).grow [x])⟩
 ·obtain ⟨f1,f2⟩:=h.hd i hi
  exact ⟨by show (P.hd i).length≤n+1;omega,f2⟩
end
section
set_option linter.unusedSimpArgs false
theorem iI.more {P:Pr}{n m:Nat}(h:iI P n)(hm:n≤m):iI P m:=
 ⟨h.ok,h.b,Nat.le_trans h.hl hm,h.e1,h.e2,h.acc,h.ten,h.hep,h.nuL,fun i=>⟨(h.nu i).1,by have:=(h.nu i).2;omega⟩,h.ak0,h.ak1,h.ack,h.ahr,h.lag,h.mt,fun i hi=>⟨(h.fl i hi).1,(h.fl i hi).2.1,Nat.le_trans (h.fl i hi).2.2.1 hm,(h.fl i hi).2.2.2⟩,fun i hi=>⟨Nat.le_trans (h.sh i hi).1 hm,(h.sh i hi).2⟩,fun i hi=>⟨Nat.le_trans (h.hd i hi).1 hm,(h.hd i hi).2⟩,h.pg⟩
theorem wJ {α:Type}{l:List α}(h:l.length≠0)(b:Int)(d:α):pick l b d∈l:=by
 have h1:=Int.emod_nonneg b (b:=(l.length:Int)) oy;have h2:=Int.emod_lt_of_pos b (b:=(l.length:Int)) oy;have h3:(b % (l.length:Int)).toNat<l.length:=by omega
 unfold pick;rw [List.getD_eq_getElem?_getD,List.getElem?_eq_getElem h3];exact List.getElem_mem h3
theorem ny {P:Pr}{n:Nat}(h:iI P n)(hn:n≤1000){i:Nat}(hi:i<2){m:Sh}(hm:ade P.e P.home.h m){t:FlT}(ht:t=bS (P.fo i).seen (P.fo i).agr (P.fo i).c m):
  shB m=true∧(P.fo i).seen≤m.ep∧aog P.e P.home.h (P.fo i).agr (P.fo i).c m t∧KpB t.c∧t.c.h.length≤n∧t.c.ten=0∧adq P.e t.r t.agr t.c:=by
 obtain ⟨f1,f2,f3,f4⟩:=h.fl i hi;obtain ⟨N,hN,_⟩:=h.ok.run;have hl:=h.hl;have T:=sO h.ok.h hN h.hep h.e1 h.e2 oy f1 hm;have hv:=hm.valid h.ok.h h.hep h.e1 h.e2 oy;rw [←ht] at T;refine ⟨hv,by rw [hm.ep];exact f1.seen,T,by rw [ht];exact afw f2 hv,?_,by rw [T.st.ten];exact f4,T.hd oy oy⟩
 rcases T.ok.st with ⟨_,_,s3⟩|⟨s1,_⟩
 ·omega
 ·have hno:t.r.ok=false:=by
   cases hy:t.r.ok with
   |false=>rfl
   |true=>have:=(T.yes hy).2.2;omega
  rw [(T.no hno).2.1];exact f3
theorem zV {P:Pr}{n:Nat}(h:iI P n){i:Nat}(hi:i<2){c:Kp}{seen agr:Int}(h1:xL P.e P.home.h seen agr c)(h2:KpB c)(h3:c.h.length≤n)(h4:c.ten=0)(hst:qF (P.fo i).c c)(hk:(P.fo i).agr=P.e→agr=P.e∧(P.fo i).c.h.length≤c.h.length)
  {hd' :Nat→List Hd} (hh:∀j,j≠i→hd' j=P.hd j) (hd1:(hd' i).length≤n+1) (hd2:∀a∈hd' i,a∈P.hd i∨adq P.e a agr c) (hd3:P.hd i=[]→P.pg i=none→hd' i=[]):iI {P with fo:=fD P.fo i ⟨c,seen,agr⟩,hd:=hd'} (n+1):=by
 refine ⟨h.ok,h.b,by have:=h.hl;show P.home.h.length≤n+1;omega,h.e1,h.e2,h.acc,h.ten,h.hep,h.nuL,fun j=>⟨(h.nu j).1,by have:=(h.nu j).2;show P.nu.getD j 0≤((n+1:Nat):Int);omega⟩,h.ak0,h.ak1,h.ack,h.ahr,h.lag,fun j hj=> ?_,fun j hj=> ?_,fun j hj=>⟨by have:=(h.sh j hj).1;show (P.sh j).length≤n+1;omega,(h.sh j hj).2⟩,fun j hj=> ?_,fun j hj=> ?_⟩
 ·simp only
  have hm:=h.mt j hj
  by_cases e:j=i
  ·subst e
   rw [upd_same];simp only;rw [hst.cell,hst.cd,hst.ws];exact hm
  ·rw [aF _ _ e]
   exact hm
 ·simp only
  by_cases e:j=i
  ·subst e
   rw [upd_same];exact ⟨h1,h2,by show c.h.length≤n+1;omega,h4⟩
  ·rw [aF _ _ e]
   obtain ⟨q1,q2,q3,q4⟩:=h.fl j hj;exact ⟨q1,q2,by omega,q4⟩
 ·simp only
  by_cases e:j=i
  ·subst e
   rw [upd_same];refine ⟨hd1,fun a ha=> ?_⟩
   rcases hd2 a ha with ha|ha
   ·exact ((h.hd j hj).2 a ha).keep hk
   ·exact ha
  ·rw [aF _ _ e,hh j e]
   exact ⟨by have:=(h.hd j hj).1;omega,(h.hd j hj).2⟩
 ·have hp:=h.pg j hj
  simp only
  by_cases e:j=i
  ·subst e
   rw [upd_same]
   cases hpj:P.pg j with
   |none=>rw [hpj] at hp;exact ⟨hp.1,hd3 hp.2 hpj⟩
   |some p=>rw [hpj] at hp;exact hp.keep hk
  ·rw [aF _ _ e,hh j e]
   exact hp
theorem ah8 {P:Pr}{n:Nat}(h:iI P n)(hn:n≤1000){i:Nat}(hi:i<2){m:Sh}(hm:m∈P.sh i):iI (lY P i m) (n+1):=by
 obtain ⟨q1,q2,T,q4,q5,q6,q7⟩:=ny h hn hi ((h.sh i hi).2 m hm) rfl;unfold lY;rw [if_pos T.er];refine zV h hi T.ok q4 q5 q6 T.st T.keep (fun j e=>aF _ _ e) ?_ (fun a ha=> ?_) (fun e1 e2=> ?_)
 ·rw [upd_same,List.length_append]
  have:=(h.hd i hi).1
  simp;omega
 ·rw [upd_same] at ha
  rcases List.mem_append.1 ha with ha|ha
  ·exact .inl ha
  ·simp at ha;rw [ha];exact .inr q7
 ·have:=h.pg i hi
  rw [e2] at this;rw [this.1] at hm
  cases hm
theorem step_ok {P:Pr}{n:Nat}(h:iI P n)(hn:n≤1000)(wh a b:Int):iI (aQ P wh a b) (n+1):=by
 have hi:(a % 2).toNat<2:=by have:=Int.emod_lt_of_pos a (b:=2) dcd;omega
 unfold aQ;simp only;generalize (a % 2).toNat=i at hi;have hp:=h.pg i hi
 split
 ·exact adt h hn a b
 split
 ·split
  ·exact h.more (Nat.le_succ n)
  ·rename_i p hpi
   rw [hpi] at hp;have hs:=lM P.e p P.home.h (Int.le_trans hp.ap0 hp.nx);refine ⟨h.ok,h.b,by have:=h.hl;show P.home.h.length≤n+1;omega,h.e1,h.e2,h.acc,h.ten,h.hep,h.nuL,fun j=>⟨(h.nu j).1,by have:=(h.nu j).2;show P.nu.getD j 0≤((n+1:Nat):Int);omega⟩,h.ak0,h.ak1,h.ack,h.ahr,h.lag,h.mt,fun j hj=>⟨(h.fl j hj).1,(h.fl j hj).2.1,by have:=(h.fl j hj).2.2.1;show (P.fo j).c.h.length≤n+1;omega,(h.fl j hj).2.2.2⟩,fun j hj=> ?_,fun j hj=>⟨by have:=(h.hd j hj).1;show (P.hd j).length≤n+1;omega,(h.hd j hj).2⟩,fun j hj=> ?_⟩
   ·simp only
    by_cases e:j=i
    ·subst e
     rw [upd_same];refine ⟨by have:=(h.sh j hj).1;rw [List.length_append];simp;omega,fun m hm=> ?_⟩
     rcases List.mem_append.1 hm with hm|hm
     ·exact (h.sh j hj).2 m hm
     ·simp at hm;rw [hm];exact hs
    ·rw [aF _ _ e]
     exact ⟨by have:=(h.sh j hj).1;omega,(h.sh j hj).2⟩
   ·simp only
    by_cases e:j=i
    ·subst e
     rw [hpi];exact hp
    ·rw [aF _ _ e];exact h.pg j hj
 split
 ·split
  ·exact h.more (Nat.le_succ n)
  ·rename_i hl
   exact ah8 h hn hi (wJ hl b sh0)
 split
 ·split
  ·exact h.more (Nat.le_succ n)
  ·rename_i hl
   split
   ·exact h.more (Nat.le_succ n)
   ·rename_i p hpi
    rw [hpi] at hp;have ha:=(h.hd i hi).2 _ (wJ hl b hd0);have h2:=h.more (Nat.le_succ n);refine ⟨h2.ok,h2.b,h2.hl,h2.e1,h2.e2,h2.acc,h2.ten,h2.hep,h2.nuL,h2.nu,h2.ak0,h2.ak1,h2.ack,h2.ahr,h2.lag,h2.mt,h2.fl,h2.sh,h2.hd,fun j hj=> ?_⟩;simp only
    by_cases e:j=i
    ·subst e
     rw [upd_same];exact hp.hear ha
    ·rw [aF _ _ e];exact h.pg j hj
 ·exact h.more (Nat.le_succ n)
theorem anx {P:Pr}{n:Nat}(h:iI P n){k:Int}(h1:P.ak≤k)(h2:k≤max P.ak P.home.h.length):iI {P with ak:=k,dS:=k} n:=
 ⟨h.ok,h.b,h.hl,h.e1,h.e2,h.acc,h.ten,h.hep,h.nuL,h.nu,Int.le_trans h.ak0 h1,by have:=h.ak1;show k≤(P.home.h.length:Int);omega,Int.le_refl _,Int.le_trans h.ak0 h1,h.lag,h.mt,h.fl,h.sh,h.hd,h.pg⟩
def gP (P:Pr)(i:Nat)(p:Pg):Pr:=
 {P with fo:=fD P.fo i ⟨(bS (P.fo i).seen (P.fo i).agr (P.fo i).c (dz P.e p P.home.h)).c,(bS (P.fo i).seen (P.fo i).agr (P.fo i).c (dz P.e p P.home.h)).seen,(bS (P.fo i).seen (P.fo i).agr (P.fo i).c (dz P.e p P.home.h)).agr⟩,pg:=fD P.pg i (some (gZ p (bS (P.fo i).seen (P.fo i).agr (P.fo i).c (dz P.e p P.home.h)).r))}
def muP (P:Pr)(i:Nat)(p:Pg):Int:=mu P.e P.home.h.length p (P.fo i).agr
theorem rF {P:Pr}{n:Nat}(h:iI P n)(hn:n≤1000){i:Nat}(hi:i<2){p:Pg}(hp:P.pg i=some p):
  iI (gP P i p) (n+1)∧shB (dz P.e p P.home.h)=true∧(P.fo i).seen≤(dz P.e p P.home.h).ep∧(bS (P.fo i).seen (P.fo i).agr (P.fo i).c (dz P.e p P.home.h)).er=0∧adq P.e (bS (P.fo i).seen (P.fo i).agr (P.fo i).c (dz P.e p P.home.h)).r (bS (P.fo i).seen (P.fo i).agr (P.fo i).c (dz P.e p P.home.h)).agr (bS (P.fo i).seen (P.fo i).agr (P.fo i).c (dz P.e p P.home.h)).c∧
  (∃p',(gP P i p).pg i=some p'∧(muP (gP P i p) i p' =0∨muP (gP P i p) i p' <muP P i p))∧(∀j,j≠i→(gP P i p).pg j=P.pg j∧(gP P i p).fo j=P.fo j):=by
 have hpp:=h.pg i hi;rw [hp] at hpp;have hs:=lM P.e p P.home.h (Int.le_trans hpp.ap0 hpp.nx);obtain ⟨q1,q2,T,q4,q5,q6,q7⟩:=ny h hn hi hs rfl;obtain ⟨N,hN,_⟩:=h.ok.run;obtain ⟨_,R2,_,R4⟩:=aeo h.ok.h hN h.hep h.e1 h.e2 (by have:=h.hl;omega) (h.fl i hi).1 (by have:=(h.fl i hi).2.2.1;omega) hpp rfl;have h2:=zV h hi T.ok q4 q5 q6 T.st T.keep (hd' :=P.hd) (fun _ _=>rfl) (by have:=(h.hd i hi).1;omega) (fun a ha=> .inl ha) (fun e _=>e);refine ⟨⟨h2.ok,h2.b,h2.hl,h2.e1,h2.e2,h2.acc,h2.ten,h2.hep,h2.nuL,h2.nu,h2.ak0,h2.ak1,h2.ack,h2.ahr,h2.lag,h2.mt,h2.fl,h2.sh,h2.hd,fun j hj=> ?_⟩,q1,q2,T.er,q7,⟨_,upd_same _ _ _,?_⟩,fun j e=>⟨aF _ _ e,aF _ _ e⟩⟩
 ·by_cases e:j=i
  ·subst e
   simp only [gP,upd_same];exact R2
  ·have:=h.pg j hj
   simp only [gP];rw [aF _ _ e,aF _ _ e];exact this
 ·unfold muP
  simp only [gP,upd_same];exact R4
theorem ai5 {P:Pr}{n:Nat}(h:iI P n){i:Nat}(hi:i<2){p:Pg}(hp:P.pg i=some p)(hm:muP P i p≤0):(P.fo i).c.h=P.home.h:=by
 have hpp:=h.pg i hi;rw [hp] at hpp;exact ai4 (h.fl i hi).1 hpp hm
theorem ae5 {P:Pr}{n:Nat}(h:iI P n){i:Nat}(hi:i<2){p:Pg}(hp:P.pg i=some p):muP P i p≤3*n+1:=by
 have hpp:=h.pg i hi;rw [hp] at hpp;have hl:=h.hl;have:=apy (E:=P.e) (H:=P.home.h) (agr:=(P.fo i).agr) hpp.ap0 (by
  by_cases h0:0<p.ap
  ·obtain ⟨e1,e2⟩:=hpp.has h0
   rcases (h.fl i hi).1.st with ⟨_,_,s3⟩|⟨s1,_⟩<;>omega
  ·omega)
 unfold muP
 omega
end
section
set_option linter.unusedSimpArgs false
theorem KpB.zero (a b:Int):KpB (cs0 a b):=⟨by simp [cs0],by simp [cs0,nw0],by simp [cs0,nw0],fun x h=>by simp [cs0] at h⟩
theorem kF.gate {c:Kp}(h:kF c)(ws:List Wn):kF {c with ws:=ws}:=⟨h.h,h.run⟩
theorem KpB.gate {c:Kp}(h:KpB c)(ws:List Wn):KpB {c with ws:=ws}:=⟨h.h,h.its,h.les,h.ch⟩
def startP (lag:Int):Pr:=⟨1,lag,0,fun i=>if i=0 then some ⟨true,0,0⟩ else none,{cs0 0 0 with ws:=[⟨0,1,0,0,1000⟩]},fun i=>⟨cs0 ((i:Int)+1) 0,0,0⟩,fun _=>[],fun _=>[],[0,0,0,0],0,fun i=>((i:Int)+1,0,[])⟩
theorem al3 {E:Int}(hE:1≤E)(a b:Int):xL E [] 0 0 (cs0 a b):=⟨kF.zero a b,by omega,.inr ⟨by omega,fun x h=>by simp [cs0] at h,fun n x y h=>by simp [cs0] at h⟩⟩
theorem aea {lag:Int}(h1: -1≤lag):iI (startP lag) 0:=by
 refine ⟨(kF.zero 0 0).gate _,(KpB.zero 0 0).gate _,Nat.le_refl _,(show (1:Int)≤1 from by decide),(show (1:Int)≤1048576 from by decide),(show lV [⟨0,1,0,0,1000⟩] 0 5=1 from by decide),rfl,fun x h=>by simp [startP,cs0] at h,rfl,fun i=> ?_,(show (0:Int)≤0 from by decide),(show (0:Int)≤0 from by decide),(show (0:Int)≤0 from by decide),(show (0:Int)≤0 from by decide),h1,fun i hi=>⟨rfl,rfl,rfl⟩,fun i hi=>⟨al3 (show (1:Int)≤1 from by decide) _ _,KpB.zero _ _,Nat.le_refl _,rfl⟩,fun i hi=>⟨Nat.le_refl _,fun m h=>by simp [startP] at h⟩,fun i hi=>⟨Nat.le_refl _,fun m h=>by simp [startP] at h⟩,fun i hi=> ?_⟩
 ·have:(startP lag).nu.getD i 0=0:=by
   show ([0,0,0,0]:List Int).getD i 0=0
   rcases i with _|_|_|_|i<;>simp
  rw [this];exact ⟨by decide,by decide⟩
 ·by_cases e:i=0
  ·subst e
   exact ⟨by decide,by decide,fun h=>by simp at h⟩
  ·have:(startP lag).pg i=none:=if_neg e
   rw [this];exact ⟨rfl,rfl⟩
theorem alg:∀(k:Nat) (h:List Ch) (n:Nw),h.length=k→runN h=some n→∀i,0≤(n.ss.getD i ⟨0,rp0⟩).nm∧(n.ss.getD i ⟨0,rp0⟩).nm≤k:=by
 intro k
 induction k with
 |zero=>
  intro h n hl hr i;rw [List.length_eq_zero_iff] at hl;subst hl;simp only [runN,List.foldl_nil,Option.some.injEq] at hr;subst hr;have:(nw0.ss.getD i ⟨0,rp0⟩).nm=0:=by
   show ((List.replicate 8 (⟨0,rp0⟩:Ss)).getD i ⟨0,rp0⟩).nm=0
   rw [List.getD_eq_getElem?_getD,List.getElem?_replicate]
   split<;>rfl
  rw [this];exact ⟨Int.le_refl _,Int.le_refl _⟩
 |succ k ih=>
  intro h n hl hr i;obtain ⟨g,x,rfl⟩:∃g x,h=g++[x]:=⟨h.dropLast,h.getLast (by intro e;simp [e] at hl),(List.dropLast_concat_getLast _).symm⟩;obtain ⟨m,hm,h0,rfl⟩:=gX hr;have hg:g.length=k:=by simp at hl;exact hl
  have hI:=ih g m hg hm;obtain ⟨a1,_,_,a4⟩:=wM h0;obtain ⟨b1,b2,b3⟩:=vW a1;have e:(cu m x).2.ss=m.ss.set (x.cl-1).toNat ⟨x.nm,⟨0,x.sq,jh x,noS⟩⟩:=by rw [a4];exact b3
  rw [e,List.getD_eq_getElem?_getD,List.getElem?_set];have h1:=hI i;have h2:=hI (x.cl-1).toNat
  split
  ·split
   ·simp only [Option.getD_some]
    omega
   ·simp only [Option.getD_none]
    exact ⟨by decide,by show (0:Int)≤_;omega⟩
  ·rw [←List.getD_eq_getElem?_getD]
   omega
theorem kF.nm {c:Kp}(h:kF c)(i:Nat):0≤(c.nw.ss.getD i ⟨0,rp0⟩).nm∧(c.nw.ss.getD i ⟨0,rp0⟩).nm≤c.h.length:=by
 obtain ⟨n,hn,hs⟩:=h.run;have:=alg _ c.h n rfl hn i;have e:n.ss=c.nw.ss:=by injection hs
 rwa [e] at this
theorem kF.ss8 {c:Kp}(h:kF c):c.nw.ss.length=8:=by
 obtain ⟨n,hn,hs⟩:=h.run;have:=(ain _ c.h n rfl hn).1;have e:n.ss=c.nw.ss:=by injection hs
 rwa [e] at this
def je (P:Pr):Pr:=⟨2,-1,min P.dS (P.fo 0).c.h.length,fun i=>some ⟨false,0,(P.fo 0).c.h.length⟩,{(P.fo 0).c with ws:=[⟨1,2,0,0,1000⟩]},fun i=>if i=0 then ⟨P.home,0,0⟩ else P.fo i,fun _=>[],fun _=>[],(P.fo 0).c.nw.ss.take 4|>.map Ss.nm,0,fun i=>if i=0 then (P.home.cell,P.home.cd,P.home.ws) else P.mc i⟩
theorem ahj {H:List Ch}{seen agr:Int}{c:Kp}(h:xL 1 H seen agr c):c.h=H.take c.h.length∧c.h.length≤H.length:=by
 rcases h.st with ⟨_,s2,s3⟩|⟨_,s2,_⟩
 ·exact ⟨s2,s3⟩
 ·have:c.h=[]:=by
   cases hc:c.h with
   |nil=>rfl
   |cons x l=>
    have h1:=h.ok.h.ep0 (i:=0) (x:=x) (by rw [hc];rfl);have h2:=s2 x (by rw [hc];exact List.mem_cons_self ..)
    omega
  rw [this]
  simp
theorem ag4 {H G:List Ch}{c:Kp}{agr seen:Int}(ok:kF c)(hs:seen≤2)(ha:agr<2)(he:∀x∈c.h,x.ep<2)(h1:∃n,c.h=H.take n)(h2:∃m,G=H.take m):xL 2 G seen agr c:=by
 refine ⟨ok,hs,.inr ⟨ha,he,fun n x y hx hy _=> ?_⟩⟩;obtain ⟨a,ea⟩:=h1;obtain ⟨b,eb⟩:=h2;have l1:=(List.getElem?_eq_some_iff.1 hx).1;have l2:=(List.getElem?_eq_some_iff.1 hy).1;rw [ea,List.length_take] at l1;rw [eb,List.length_take] at l2;rw [ea,eb,List.take_take,List.take_take,Nat.min_eq_left oy,Nat.min_eq_left oy]
theorem ajw {P:Pr}{n:Nat}(h:iI P n)(he:P.e=1):iI (je P) n:=by
 obtain ⟨f1,f2,f3,f4⟩:=h.fl 0 dcd;obtain ⟨g1,g2,g3,g4⟩:=h.fl 1 dcd;rw [he] at f1 g1;obtain ⟨p1,p2⟩:=ahj f1;obtain ⟨r1,r2⟩:=ahj g1;have hep:=h.hep;rw [he] at hep;have awx:∀x∈(P.fo 0).c.h,x.ep≤1:=fun x hx=>hep x (by rw [p1] at hx;exact List.mem_of_mem_take hx);have hag:∀{seen agr:Int} {c:Kp},xL 1 P.home.h seen agr c→agr<2:=fun k=>by rcases k.st with ⟨s,_⟩|⟨s,_⟩<;>omega
 have hnm:=f1.ok.nm;have hs8:=f1.ok.ss8;have ha0:=h.ahr;have hhl:=h.hl;refine ⟨f1.ok.gate _,f2.gate _,f3,(show (1:Int)≤2 from by decide),(show (2:Int)≤1048576 from by decide),by show lV [⟨1,2,0,0,1000⟩] 0 5=2;decide,f4,fun x hx=>by show x.ep≤2;have:=awx x hx;omega,?_,fun i=> ?_,?_,?_,?_,(show (0:Int)≤0 from by decide),(show (-1:Int)≤-1 from by decide),fun i hi=> ?_,fun i hi=> ?_,fun i hi=>⟨Nat.zero_le _,fun m h=>by simp [je] at h⟩,fun i hi=>⟨Nat.zero_le _,fun m h=>by simp [je] at h⟩,fun i hi=> ?_⟩
 ·show ((P.fo 0).c.nw.ss.take 4|>.map Ss.nm).length=4
  rw [List.length_map,List.length_take,hs8];rfl
 ·have h1:=hnm i
  have hv:((P.fo 0).c.nw.ss.take 4|>.map Ss.nm).getD i 0=0∨((P.fo 0).c.nw.ss.take 4|>.map Ss.nm).getD i 0=((P.fo 0).c.nw.ss.getD i ⟨0,rp0⟩).nm:=by
   rw [List.getD_eq_getElem?_getD,List.getElem?_map,List.getElem?_take,List.getD_eq_getElem?_getD]
   split
   ·cases hx:(P.fo 0).c.nw.ss[i]? with
    |none=>exact .inl rfl
    |some x=>exact .inr rfl
   ·exact .inl rfl
  show 0≤((P.fo 0).c.nw.ss.take 4|>.map Ss.nm).getD i 0∧((P.fo 0).c.nw.ss.take 4|>.map Ss.nm).getD i 0≤(n:Int)
  rcases hv with e|e<;>rw [e]<;>omega
 ·show (0:Int)≤min P.dS ((P.fo 0).c.h.length:Int);omega
 ·show min P.dS ((P.fo 0).c.h.length:Int)≤((P.fo 0).c.h.length:Int);omega
 ·show (0:Int)≤min P.dS ((P.fo 0).c.h.length:Int);omega
 ·have hm:=h.mt i hi
  show (if i=0 then (⟨P.home,0,0⟩:Fo) else P.fo i).c.cell=_∧_∧_
  simp only [je]
  by_cases e:i=0
  ·simp [e]
  ·simp only [e,if_false];exact hm
 ·simp only [je]
  by_cases e:i=0
  ·simp only [e,if_true]
   exact ⟨ag4 (H:=P.home.h) h.ok dcd dcd (fun x hx=>by have:=hep x hx;omega) ⟨P.home.h.length,(List.take_length).symm⟩ ⟨_,p1⟩,h.b,h.hl,h.ten⟩
  ·obtain rfl:i=1:=by omega
   simp only [e,if_false];refine ⟨ag4 (H:=P.home.h) g1.ok (by have:=g1.seen;omega) (hag g1) (fun x hx=> ?_) ⟨_,r1⟩ ⟨_,p1⟩,g2,g3,g4⟩;have:=hep x (by rw [r1] at hx;exact List.mem_of_mem_take hx)
   omega
 ·show adf 2 ⟨false,0,((P.fo 0).c.h.length:Int)⟩ _ _
  exact ⟨Int.le_refl _,(show (0:Int)≤((P.fo 0).c.h.length:Int) from by omega),fun h=>by simp at h⟩
end
end Go.Proofs.YtodkhcbjpodgeaaGreat
