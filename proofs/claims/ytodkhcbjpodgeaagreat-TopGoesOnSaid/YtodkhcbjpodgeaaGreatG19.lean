/-
  A store: what it has, what a change makes of it.
-/
import Derived.Test.YtodkhcbjpodgeaaGreatG16
import Derived.StillTailTactics
namespace Go.Proofs.YtodkhcbjpodgeaaGreat
open Go.ChangeShapes Go.WideShapes Go.ChangeAt Go.RowKit
set_option linter.unusedVariables false
set_option maxRecDepth 100000
set_option maxHeartbeats 4000000
section
abbrev TMp:TypeId:=194
abbrev TWr:TypeId:=192
theorem afd (s:ByteArray)(hs:s.size≤maxLen):keyOf Tryz.prog TS_ (.string s)=some (kL s):=by
 rw [Go.keyOf_string Tryz.underlying9];unfold kL;unfold maxLen at hs
 simp [mapKey,Tryz.underlying9,hs,maxLen]
theorem tH (W:World):(zeroValue TWr).run Tryz.prog W= .ok (.agg #[.string noS,.int .i64 0]) W:=by kernel_rfl
theorem apk:wR (.agg #[.string noS,.int .i64 0])=some (wD noS 0,[]):=ah3 dcd
theorem ab3 {D:DataW Unit}{k s:ByteArray}{n:Int}(h:D.atKey (kL k) (wD noS 0)=wD s n):sK D k=(s,n,Maps.has D (kL k)):=by
 unfold sK;rw [h]
 rfl
set_option maxHeartbeats 2000000 in
theorem ab2 {w:World}{F:Nat→Prop}{s:Nat}{D:DataW Unit}(h:bX w F s D)(k:ByteArray)(hk:k.size≤maxLen):
  Calls Tryz.prog 43 #[.pointer (some ⟨s,0,none⟩),.string k] w fun e w' =>e= .returned (.tuple #[.string (sK D k).1,.int .i64 (sK D k).2.1,.bool (sK D k).2.2])∧Fr No w w' :=by
 obtain ⟨m,f1,f2,hb,hown,hsz⟩:=h;have c0:w.cell? ⟨s,0,none⟩=some (.map (some m)):=hb.cell 0;have hkey:=afd k hk;clear hb hsz;obtain ⟨HOWN,HKEY⟩:=aN hown hkey;clear hown hkey
 go_in
 go_wp2_with (at_lookup;refine wpList_lookup_own_ok _ rfl _ _ TMp rfl TS_ TWr (Maps.string_keyed Tryz.underlying9) Tryz.underlying194 wR (tH _) (wD noS 0) [] apk m _ D rfl HOWN.out _ _ rfl HKEY.out ?_;intro v ps hv;obtain ⟨s',n',rfl,hd,hs'⟩:=zT hv;have HD:=O hd;clear hd hv)
 obtain ⟨w1,hw1⟩:∃w1,w1=w.alloc (.cells #[.string s',.int .i64 n'] TWr):=⟨_,rfl⟩;obtain ⟨g1,hg1⟩:∃g1,g1=w.heap.size:=⟨_,rfl⟩;have b1:Blk w1 g1 TWr #[.string s',.int .i64 n']:=by rw [hw1,hg1];exact Blk.new _ _ _
 have f1:Fr No w w1:=by rw [hw1];exact aj _ _
 rw [←hw1,←hg1];have y0:w1.cell? ⟨g1,0,none⟩=some (.string s'):=b1.cell 0;have y1:w1.cell? ⟨g1,1,none⟩=some (.int .i64 n'):=b1.cell 1;clear hw1 hg1 b1
 go_quiet (fail)
 go_wp2_with fail
 rw [ab3 HD.out];exact bodyPost_ret (v:= .tuple #[.string s',.int .i64 n',.bool (Maps.has D (kL k))]) (by simp [results,Tryz.results43,go_sem]) rfl ⟨rfl,f1.drewN nq⟩
section
variable {H:Type}{P:Program}{w:World}{ops:Array Oper}{o:Oper}{a:Act}{K:Act→World→Prop}{Q:Exit→Act→World→Prop}{E:Prop}
end
theorem ak6 {s t:ByteArray}{a b:Int}(h:wD s a=wD t b):s=t∧a=b:=by
 simp only [wD,DataW.agg.injEq,List.cons.injEq,DataW.lit.injEq,Lit.string.injEq,Lit.int.injEq,and_true,true_and] at h;exact ⟨Go.WideShapes.bytes_inj h.1,h.2⟩
theorem wS {w:World}{m n:Nat}{D:DataW Unit}(h:w.ownsMap Tryz.prog TS_ wR m n D)(k:ByteArray)(hk:k.size≤maxLen):
  ∃s n',D.atKey (kL k) (wD noS 0)=wD s n'∧∀(V:World) (n2:Nat),V.ownsMap Tryz.prog TS_ wR m n2 D→(Instr.lookup TMp (.map (some m)) (.string k) true).run Tryz.prog V= .ok (.tuple #[.agg #[.string s,.int .i64 n'],.bool (Maps.has D (kL k))]) V:=by
 obtain ⟨v,ps,_,hv⟩:=h.look_ok (Maps.string_keyed Tryz.underlying9) Tryz.underlying194 (tH w) apk (afd k hk);obtain ⟨s,n',rfl,hd,_⟩:=zT hv;refine ⟨s,n',hd,fun V n2 hV=> ?_⟩;obtain ⟨v2,ps2,hrun,hv2⟩:=hV.look_ok (Maps.string_keyed Tryz.underlying9) Tryz.underlying194 (tH V) apk (afd k hk);obtain ⟨s2,n2',rfl,hd2,_⟩:=zT hv2;obtain ⟨rfl,rfl⟩:=ak6 (hd.symm.trans hd2);exact hrun
theorem iW {w w' :World}{b:Nat}(h:w.mapTurned w' b):Fr (fun i=>i=b) w w' :=(Fr.refl _ w).grown h.grown fun k hk=> .inl (by cases hk;rfl)
def ark (w:World)(F:Nat→Prop)(s:Nat)(D:DataW Unit)(w' :World):Prop:=bX w' F s D∧Fr F w w'
theorem tX {w:World}{F:Nat→Prop}{s:Nat}{D:DataW Unit}(h:bX w F s D)(hlt:∀i,F i→i<w.heap.size)(x:Ch)(hk:x.ky.size≤maxLen)(hv:x.vl.size≤maxLen):
  Calls Tryz.prog 124 #[.pointer (some ⟨s,0,none⟩),.agg #[.int .i64 x.ep,.int .i64 x.sq,.int .i64 x.kd,.int .i64 x.cl,.int .i64 x.nm,.int .i64 x.it,.string x.ky,.string x.vl]] w fun e w' =>e= .returned (.int .i64 (iQ D x).1)∧ark w F s (iQ D x).2 w' :=by
 obtain ⟨m,f1,f2,hb,hown,hsz⟩:=h;have hvl:=fun V=>iX x V hk hv;have hkey:=afd x.ky hk;have hst:iQ D x=if !chB x then (1,D) else if x.kd=1 then (if !Maps.has D (kL x.ky) && decide (32≤Maps.size D) then (33,D) else (0,D.put (kL x.ky) (wD x.vl x.sq))) else if x.kd=2 then (if Maps.has D (kL x.ky) then (0,D.del (kL x.ky)) else (34,D)) else (0,D):=rfl
 revert hvl hst;generalize chB x=q;generalize iQ D x=R;intro hvl hst;obtain ⟨ep,sq,kd,cl,nm,it,ky,vl⟩:=x;simp only at*;obtain ⟨w1,hw1⟩:∃w1,w1=w.alloc (.cells #[.int .i64 ep,.int .i64 sq,.int .i64 kd,.int .i64 cl,.int .i64 nm,.int .i64 it,.string ky,.string vl] TCh):=⟨_,rfl⟩;obtain ⟨g1,hg1⟩:∃g1,g1=w.heap.size:=⟨_,rfl⟩;have b1:Blk w1 g1 TCh #[.int .i64 ep,.int .i64 sq,.int .i64 kd,.int .i64 cl,.int .i64 nm,.int .i64 it,.string ky,.string vl]:=by rw [hw1,hg1];exact Blk.new _ _ _
 have fr1:Fr No w w1:=by rw [hw1];exact aj _ _
 have hS_:∀V,Fr No w1 V→(V.cell? ⟨s,0,none⟩=some (.map (some m))∧V.cell? ⟨g1,0,none⟩=some (.int .i64 ep)∧V.cell? ⟨g1,1,none⟩=some (.int .i64 sq)∧V.cell? ⟨g1,2,none⟩=some (.int .i64 kd)∧V.cell? ⟨g1,3,none⟩=some (.int .i64 cl)∧V.cell? ⟨g1,4,none⟩=some (.int .i64 nm)∧V.cell? ⟨g1,5,none⟩=some (.int .i64 it)∧V.cell? ⟨g1,6,none⟩=some (.string ky)∧V.cell? ⟨g1,7,none⟩=some (.string vl)):=fun V hV=>⟨(hb.fr (fr1.ah hV) id).cell 0,(b1.fr hV id).cell 0,(b1.fr hV id).cell 1,(b1.fr hV id).cell 2,(b1.fr hV id).cell 3,(b1.fr hV id).cell 4,(b1.fr hV id).cell 5,(b1.fr hV id).cell 6,(b1.fr hV id).cell 7⟩;have hO_:∀V,Fr No w1 V→V.ownsMap Tryz.prog TS_ wR m (Maps.size D) D:=fun V hV=>fG hown (fr1.ah hV) id;have hsm:s≠m:=fun e=>by
  subst e;obtain ⟨es,clock,hh,_⟩:=hown;rw [Blk] at hb;rw [hb] at hh
  cases hh
 have hend:∀(V:World),Fr No w1 V→ark w F s D V:=fun V hV=>⟨⟨m,f1,f2,hb.fr (fr1.ah hV) id,hO_ V hV,hsz⟩,(fr1.ah hV).mono fun _ h=>h.elim⟩;have hput:∀(V W:World) (n:Nat) (D' :DataW Unit),Fr No w1 V→V.mapTurned W m→W.ownsMap Tryz.prog TS_ wR m n D'→Maps.size D'≤32→ark w F s D' W:=fun V W n D' hV ht ho hz=>
  ⟨⟨m,f1,f2,(hb.fr (fr1.ah hV) id).fr (iW ht) (fun e=>hsm e),gQ ho,hz⟩,((fr1.ah hV).mono fun _ h=>h.elim:Fr F w V).trans (iW ht) (fun i hi=>by have hi:i=m:=hi;subst hi;exact .inl f2)⟩
 obtain ⟨s',n',hlk,iL⟩:=wS hown ky hk;clear hlk;have hQ_:∀V,Fr No w1 V→(Instr.lookup TMp (.map (some m)) (.string ky) true).run Tryz.prog V= .ok (.tuple #[.agg #[.string s',.int .i64 n'],.bool (Maps.has D (kL ky))]) V:=fun V hV=>iL V _ (hO_ V hV);clear iL;have amh:=hown.tidy (Maps.string_keyed Tryz.underlying9);clear hb b1 hown hlt f1 f2 hsm;obtain ⟨HW1,HG1,HVL,HKEY,HST,HQ_,HS_,HO_,xI,ags,an7,FR1⟩:=nS hw1 hg1 hvl hkey hst hQ_ hS_ hO_ hend hput amh fr1;have HSZ:=O hsz;clear hw1 hg1 hvl hkey hst hQ_ hS_ hO_ hend hput amh fr1 hsz
 go_in
 go_upto_region 1 with fail
 rw [←HW1.out,←HG1.out];obtain ⟨c0,x0,x1,x2,x3,x4,x5,x6,x7⟩:=HS_.out w1 (Fr.refl _ _)
 go_wp2_with fail
 refine (HVL.out _).mono ?_;rintro r w2 ⟨rfl,f2⟩;have F2:=O f2;clear f2 c0 x0 x1 x2 x3 x4 x5 x6 x7;obtain ⟨c0,x0,x1,x2,x3,x4,x5,x6,x7⟩:=HS_.out w2 F2.out
 cases q
 ·have HR:=O (HST.out.trans (if_pos rfl))
  go_wp2_with fail
  go_ret
  rw [HR.out];exact ⟨rfl,xI.out _ F2.out⟩
 have HR:=O (HST.out.trans (if_neg dcd));clear HST
 go_upto_region 3 with fail
 go_cut [6] from 11 to 19 (fun b wx=>b= .bool (Maps.has D (kL ky))∧Fr No w1 wx)
 case first=>
  go_region_held3 (fun V=>V.cell? ⟨s,0,none⟩=some (.map (some m))∧(V.cell? ⟨g1,0,none⟩=some (.int .i64 ep)∧V.cell? ⟨g1,1,none⟩=some (.int .i64 sq)∧V.cell? ⟨g1,2,none⟩=some (.int .i64 kd)∧V.cell? ⟨g1,3,none⟩=some (.int .i64 cl)∧V.cell? ⟨g1,4,none⟩=some (.int .i64 nm)∧V.cell? ⟨g1,5,none⟩=some (.int .i64 it)∧V.cell? ⟨g1,6,none⟩=some (.string ky)∧V.cell? ⟨g1,7,none⟩=some (.string vl))∧(Instr.lookup TMp (.map (some m)) (.string ky) true).run Tryz.prog V= .ok (.tuple #[.agg #[.string s',.int .i64 n'],.bool (Maps.has D (kL ky))]) V) (refine ⟨(HS_.out _ ?_).1,(HS_.out _ ?_).2,HQ_.out _ ?_⟩<;>(with_reducible ((repeat (first|exact F2.out|exact Fr.refl _ _|refine Fr.alloc ?_ _|refine Fr.drew ?_|refine Fr.drewN ?_ _));done))) (fail)
  all_goals go_wp2_with fail
  all_goals go_meet
  all_goals exact ⟨rfl,by (with_reducible ((repeat (first|exact F2.out|exact Fr.refl _ _|refine Fr.alloc ?_ _|refine Fr.drew ?_|refine Fr.drewN ?_ _));done))⟩
 obtain ⟨rfl,f3⟩:=hcut;clear c0 x0 x1 x2 x3 x4 x5 x6 x7;have F3:=O f3;clear f3 F2;obtain ⟨c0,x0,x1,x2,x3,x4,x5,x6,x7⟩:=HS_.out wc F3.out;have hsz:=HSZ.out;have hpz:=Maps.size_put (k:=kL ky) an7.out (wD vl sq);have hdz:=Maps.size_del (k:=kL ky) an7.out;obtain ⟨nD,hnD⟩:∃nD,nD=Maps.size D:=⟨_,rfl⟩;have hO2:=fun V (hV:Fr No w1 V)=>HO_.out V hV;rw [←hnD] at hsz hpz hdz HR;obtain ⟨HPZ,HDZ,HND⟩:=bC hpz hdz hnD;clear hpz hdz hO2 hnD;generalize hhb:Maps.has D (kL ky)=hb at*;clear hhb
 by_cases k1:kd=1
 ·subst k1
  have HR1:=O (HR.out.trans (if_pos rfl));clear HR
  rcases hb with _|_
  ·by_cases h32:32≤nD
   ·have HX:=O (HR1.out.trans (if_pos (by simp [h32])))
    clear HR1 HPZ HDZ;have d2:decide (32≤nD)=true:=decide_eq_true h32;have hlen:=(HO_.out wc F3.out).len (t:=TMp) (e:=TWr) Tryz.underlying194 3;rw [←HND.out] at hlen;clear HND
    go_wp2_with fail
    go_ret
    rw [HX.out];exact ⟨rfl,xI.out _ F3.out⟩
   ·have HX:=O (HR1.out.trans (if_neg (by simp;omega)))
    have hz:Maps.size (D.put (kL ky) (wD vl sq))≤32:=by rw [HPZ.out];simp;omega
    clear HR1 HPZ HDZ;have d2:decide (32≤nD)=false:=decide_eq_false h32;have hlen:=(HO_.out wc F3.out).len (t:=TMp) (e:=TWr) Tryz.underlying194 3;rw [←HND.out] at hlen;clear HND
    go_upto_region 8 with fail
    go_still_tail 11,(by kernel_rfl)
    repeat still_step
    try refine wpStill_nil ?_
    change wpList _ _ _ _ _ wc.drew
    go_wp2_with (at_mapUpdate;refine wpList_mapUpdate_in _ rfl _ _ _ TMp rfl TS_ TWr (Maps.string_keyed Tryz.underlying9) Tryz.underlying194 wR m _ D rfl (HO_.out _ F3.out.drew) (by have:=HSZ.out;unfold maxLen;omega) _ _ _ rfl rfl HKEY.out (wD vl sq) [] (ah3 hv) ?_;intro w5 ho5 ht5;have HP:=O (ags.out _ _ _ _ F3.out.drew ht5 ho5 hz);clear ho5 ht5)
    go_wp2_with fail
    go_ret
    rw [HX.out];exact ⟨rfl,HP.out⟩
  ·have HX:=O (HR1.out.trans (if_neg (by simp)))
   have hz:Maps.size (D.put (kL ky) (wD vl sq))≤32:=by rw [HPZ.out];simp;omega
   clear HR1 HPZ HDZ
   go_upto_region 8 with fail
   go_still_tail 11,(by kernel_rfl)
   repeat still_step
   try refine wpStill_nil ?_
   change wpList _ _ _ _ _ wc.drew
   go_wp2_with (at_mapUpdate;refine wpList_mapUpdate_in _ rfl _ _ _ TMp rfl TS_ TWr (Maps.string_keyed Tryz.underlying9) Tryz.underlying194 wR m _ D rfl (HO_.out _ F3.out.drew) (by have:=HSZ.out;unfold maxLen;omega) _ _ _ rfl rfl HKEY.out (wD vl sq) [] (ah3 hv) ?_;intro w5 ho5 ht5;have HP:=O (ags.out _ _ _ _ F3.out.drew ht5 ho5 hz);clear ho5 ht5)
   go_wp2_with fail
   go_ret
   rw [HX.out];exact ⟨rfl,HP.out⟩
 have k1' :(kd == 1)=false:=by simpa using k1
 have HR1:=O (HR.out.trans (if_neg k1));clear HR
 by_cases k2:kd=2
 ·subst k2
  have HR2:=O (HR1.out.trans (if_pos rfl));clear HR1
  rcases hb with _|_
  ·have HX:=O (HR2.out.trans (if_neg dcd))
   clear HR2 HPZ HDZ
   go_wp2_with fail
   go_ret
   rw [HX.out];exact ⟨rfl,xI.out _ F3.out⟩
  ·have HX:=O (HR2.out.trans (if_pos rfl))
   have hz:Maps.size (D.del (kL ky))≤32:=by have:=HDZ.out;omega
   clear HR2 HPZ HDZ
   go_upto_region 12 with fail
   go_still_tail 6,(by kernel_rfl)
   repeat still_step
   try refine wpStill_nil ?_
   change wpList _ _ _ _ _ wc.drew
   go_wp2_with (at_delete;refine wpList_delete_own _ rfl _ _ TMp TS_ rfl TWr (Maps.string_keyed Tryz.underlying9) Tryz.underlying194 wR m _ D rfl (HO_.out _ F3.out.drew) _ _ rfl HKEY.out ?_;intro w5 ho5 ht5;have HP:=O (ags.out _ _ _ _ F3.out.drew ht5 ho5 hz);clear ho5 ht5)
   go_wp2_with fail
   go_ret
   rw [HX.out];exact ⟨rfl,HP.out⟩
 have k2' :(kd == 2)=false:=by simpa using k2
 have HX:=O (HR1.out.trans (if_neg k2));clear HR1 HPZ HDZ
 go_wp2_with fail
 go_ret
 rw [HX.out];exact ⟨rfl,xI.out _ F3.out⟩
end
theorem aag:∀(ss:List Ss) (c:Nat) (s:Ss),c<ss.length→(((((ssV ss).set (c*5) (.int .i64 s.nm)).set (c*5+1) (.int .i64 s.rp.er)).set (c*5+2) (.int .i64 s.rp.sq)).set (c*5+3) (.int .i64 s.rp.it)).set (c*5+4) (.string s.rp.vl)=ssV (ss.set c s):=by
 intro ss
 induction ss with
 |nil=>intro c s h;simp at h
 |cons y l ih=>
  intro c s h;have hl:y.cells.length=5:=rfl
  cases c with
  |zero=>rw [List.set_cons_zero,gM,gM];rfl
  |succ c=>
   rw [List.set_cons_succ,gM,gM,←ih c s (by simpa using h)];rw [List.set_append_right _ _ oy,List.set_append_right _ _ oy,List.set_append_right _ _ oy,List.set_append_right _ _ oy,List.set_append_right _ _ oy,hl];rw [show (c+1)*5-5=c*5 from by omega,show (c+1)*5+1-5=c*5+1 from by omega,show (c+1)*5+2-5=c*5+2 from by omega,show (c+1)*5+3-5=c*5+3 from by omega,show (c+1)*5+4-5=c*5+4 from by omega]
theorem aec (ss:List Ss)(c:Nat)(s:Ss)(i0:Int)(h:c<ss.length):((((((ssV ss).set (c*5) (.int .i64 s.nm)).set (c*5+1) (.int .i64 s.rp.er)).set (c*5+2) (.int .i64 s.rp.sq)).set (c*5+3) (.int .i64 i0)).set (c*5+4) (.string s.rp.vl)).set (c*5+3) (.int .i64 s.rp.it)=ssV (ss.set c s):=by
 rw [←aag ss c s h,List.set_comm _ _ (show c*5+4≠c*5+3 from by omega),List.set_set,]
theorem ad8 {w Z:World}{F:Nat→Prop}{t c:Nat}{ss:List Ss}(s:Ss)(h:aY w F t ss)(hf:Fr No w Z)(hc:c<8)(h0:0≤s.nm)(hM:s.nm≤1048576):
  aY (World.setCell (World.setCell (World.setCell (World.setCell (World.setCell Z ⟨t,c*5,none⟩ (.int .i64 s.nm)) ⟨t,c*5+1,none⟩ (.int .i64 s.rp.er)) ⟨t,c*5+2,none⟩ (.int .i64 s.rp.sq)) ⟨t,c*5+3,none⟩ (.int .i64 s.rp.it)) ⟨t,c*5+4,none⟩ (.string s.rp.vl)) F t (ss.set c s)∧Fr F w (World.setCell (World.setCell (World.setCell (World.setCell (World.setCell Z ⟨t,c*5,none⟩ (.int .i64 s.nm)) ⟨t,c*5+1,none⟩ (.int .i64 s.rp.er)) ⟨t,c*5+2,none⟩ (.int .i64 s.rp.sq)) ⟨t,c*5+3,none⟩ (.int .i64 s.rp.it)) ⟨t,c*5+4,none⟩ (.string s.rp.vl)):=by
 obtain ⟨h1,h2,h3,h4⟩:=h;have hb:=Blk.cv ((((((h2.fr hf id).aC (c*5) (.int .i64 s.nm)).aC (c*5+1) (.int .i64 s.rp.er)).aC (c*5+2) (.int .i64 s.rp.sq)).aC (c*5+3) (.int .i64 s.rp.it)).aC (c*5+4) (.string s.rp.vl)) (by simp only [List.setIfInBounds_toArray];rw [aag ss c s oy]);refine ⟨⟨h1,hb,by rw [List.length_set];exact h3,fun y hy=> ?_⟩,?_⟩
 ·rcases List.mem_or_eq_of_mem_set hy with hy|rfl
  ·exact h4 y hy
  ·exact ⟨h0,hM⟩
 ·exact ((((((hf.mono fun _ h=>h.elim:Fr F w Z).setCell (p:=⟨t,c*5,none⟩) (.inl h1) _).setCell (p:=⟨t,c*5+1,none⟩) (.inl h1) _).setCell (p:=⟨t,c*5+2,none⟩) (.inl h1) _).setCell (p:=⟨t,c*5+3,none⟩) (.inl h1) _).setCell (p:=⟨t,c*5+4,none⟩) (.inl h1) _)
theorem qW {w Z:World}{F:Nat→Prop}{t c:Nat}{ss:List Ss}(s:Ss)(i0:Int)(h:aY w F t ss)(hf:Fr No w Z)(hc:c<8)(h0:0≤s.nm)(hM:s.nm≤1048576):
  aY (World.setCell (World.setCell (World.setCell (World.setCell (World.setCell (World.setCell Z ⟨t,c*5,none⟩ (.int .i64 s.nm)) ⟨t,c*5+1,none⟩ (.int .i64 s.rp.er)) ⟨t,c*5+2,none⟩ (.int .i64 s.rp.sq)) ⟨t,c*5+3,none⟩ (.int .i64 i0)) ⟨t,c*5+4,none⟩ (.string s.rp.vl)) ⟨t,c*5+3,none⟩ (.int .i64 s.rp.it)) F t (ss.set c s)∧Fr F w (World.setCell (World.setCell (World.setCell (World.setCell (World.setCell (World.setCell Z ⟨t,c*5,none⟩ (.int .i64 s.nm)) ⟨t,c*5+1,none⟩ (.int .i64 s.rp.er)) ⟨t,c*5+2,none⟩ (.int .i64 s.rp.sq)) ⟨t,c*5+3,none⟩ (.int .i64 i0)) ⟨t,c*5+4,none⟩ (.string s.rp.vl)) ⟨t,c*5+3,none⟩ (.int .i64 s.rp.it)):=by
 obtain ⟨h1,h2,h3,h4⟩:=h;have hb:=Blk.cv (((((((h2.fr hf id).aC (c*5) (.int .i64 s.nm)).aC (c*5+1) (.int .i64 s.rp.er)).aC (c*5+2) (.int .i64 s.rp.sq)).aC (c*5+3) (.int .i64 i0)).aC (c*5+4) (.string s.rp.vl)).aC (c*5+3) (.int .i64 s.rp.it)) (by simp only [List.setIfInBounds_toArray];rw [aec ss c s i0 oy]);refine ⟨⟨h1,hb,by rw [List.length_set];exact h3,fun y hy=> ?_⟩,?_⟩
 ·rcases List.mem_or_eq_of_mem_set hy with hy|rfl
  ·exact h4 y hy
  ·exact ⟨h0,hM⟩
 ·exact (((((((hf.mono fun _ h=>h.elim:Fr F w Z).setCell (p:=⟨t,c*5,none⟩) (.inl h1) _).setCell (p:=⟨t,c*5+1,none⟩) (.inl h1) _).setCell (p:=⟨t,c*5+2,none⟩) (.inl h1) _).setCell (p:=⟨t,c*5+3,none⟩) (.inl h1) _).setCell (p:=⟨t,c*5+4,none⟩) (.inl h1) _).setCell (p:=⟨t,c*5+3,none⟩) (.inl h1) _)
theorem qV {w:World}{F:Nat→Prop}{t:Nat}{ss:List Ss}(h:aY w F t ss)(x:Ch)(hk:x.ky.size≤maxLen)(hv:x.vl.size≤maxLen):
  Calls Tryz.prog 123 #[.pointer (some ⟨t,0,none⟩),.agg #[.int .i64 x.ep,.int .i64 x.sq,.int .i64 x.kd,.int .i64 x.cl,.int .i64 x.nm,.int .i64 x.it,.string x.ky,.string x.vl]] w fun e w' =>e= .returned (.int .i64 (gu ss x).1)∧aY w' F t (gu ss x).2∧Fr F w w' :=by
 have hvl:=fun V=>iX x V hk hv;have hst:gu ss x=if !chB x then (1,ss) else if x.nm≠(ss.getD (x.cl-1).toNat ⟨0,rp0⟩).nm+1 then (32,ss) else (0,ss.set (x.cl-1).toNat ⟨x.nm,⟨0,x.sq,jh x,noS⟩⟩):=rfl
 have hrg:=fun (hq:chB x=true)=>ahm hq;revert hvl hst hrg;generalize chB x=q;generalize gu ss x=R;unfold jh;intro hvl hst hrg;obtain ⟨ep,sq,kd,cl,nm,it,ky,vl⟩:=x;simp only at*;obtain ⟨w1,hw1⟩:∃w1,w1=w.alloc (.cells #[.int .i64 ep,.int .i64 sq,.int .i64 kd,.int .i64 cl,.int .i64 nm,.int .i64 it,.string ky,.string vl] TCh):=⟨_,rfl⟩;obtain ⟨g1,hg1⟩:∃g1,g1=w.heap.size:=⟨_,rfl⟩;have b1:Blk w1 g1 TCh #[.int .i64 ep,.int .i64 sq,.int .i64 kd,.int .i64 cl,.int .i64 nm,.int .i64 it,.string ky,.string vl]:=by rw [hw1,hg1];exact Blk.new _ _ _
 have fr1:Fr No w w1:=by rw [hw1];exact aj _ _
 have hS_:∀V,Fr No w1 V→(V.cell? ⟨g1,0,none⟩=some (.int .i64 ep)∧V.cell? ⟨g1,1,none⟩=some (.int .i64 sq)∧V.cell? ⟨g1,2,none⟩=some (.int .i64 kd)∧V.cell? ⟨g1,3,none⟩=some (.int .i64 cl)∧V.cell? ⟨g1,4,none⟩=some (.int .i64 nm)∧V.cell? ⟨g1,5,none⟩=some (.int .i64 it)∧V.cell? ⟨g1,6,none⟩=some (.string ky)∧V.cell? ⟨g1,7,none⟩=some (.string vl)):=fun V hV=>⟨(b1.fr hV id).cell 0,(b1.fr hV id).cell 1,(b1.fr hV id).cell 2,(b1.fr hV id).cell 3,(b1.fr hV id).cell 4,(b1.fr hV id).cell 5,(b1.fr hV id).cell 6,(b1.fr hV id).cell 7⟩;have hat:=fun c hc=>h.at_ (c:=c) hc;have hlt:t<w.heap.size:=h.2.1.lt;have hne:t≠g1:=by omega
 have hne' :g1≠t:=by omega
 have hH:=h;clear b1 hlt h;obtain ⟨HW1,HG1,HVL,HST,HRG,HS_,HAT,FR1,HH,HK,HV⟩:=kP hw1 hg1 hvl hst hrg hS_ hat fr1 hH hk hv;clear hw1 hg1 hvl hst hrg hS_ hat fr1 hH hk hv
 go_in
 go_upto_region 1 with fail
 rw [←HW1.out,←HG1.out];obtain ⟨x0,x1,x2,x3,x4,x5,x6,x7⟩:=HS_.out w1 (Fr.refl _ _)
 go_wp2_with fail
 refine (HVL.out _).mono ?_;rintro r w2 ⟨rfl,f2⟩;have F2:=O (FR1.out.ah f2);have F2' :=O f2;clear f2 x0 x1 x2 x3 x4 x5 x6 x7;obtain ⟨x0,x1,x2,x3,x4,x5,x6,x7⟩:=HS_.out w2 F2'.out
 cases q
 ·have HR:=O (HST.out.trans (if_pos rfl))
  go_wp2_with fail
  go_ret
  rw [HR.out];exact ⟨rfl,HH.out.fr F2.out (fun _ _ h=>h),F2.out.mono fun _ h=>h.elim⟩
 obtain ⟨hc1,hc2,hn1,hn2,_,_⟩:=HRG.out rfl;obtain ⟨c,rfl⟩:∃c:Nat,cl=(c:Int)+1:=⟨(cl-1).toNat,by omega⟩;have hc8:c<8:=by omega
 obtain ⟨s,hs,s1,s2,hcl⟩:=HAT.out c hc8;obtain ⟨zw,⟨ahv,aht,ahu,ahs⟩⟩:=s;simp only at hcl s1 s2;have hR:=HST.out.trans (if_neg dcd);rw [show ((c:Int)+1-1).toNat=c from by omega,List.getD_eq_getElem?_getD,hs] at hR;simp only [Option.getD_some] at hR;have HR0:=O hR;have hfz:∀V,Fr No w V→∀j,V.frozen? ⟨t,j,none⟩=false:=fun V hV j=>(HH.out.2.1.fr hV id).frozen j;clear hR hs HST HRG HVL;have hcc:IntKind.i64.wrap ((c:Int)+1-1)=(c:Int):=by rw [show (c:Int)+1-1=(c:Int) from by omega];exact IntWalk.i64_in _ oy
 have hx1:(c:Int)+1-1=(c:Int):=by omega
 have hc0:(0:Int)≤(c:Int):=by omega
 have azf:(c:Int)<8:=by omega
 obtain ⟨HCL,HFZ⟩:=aN hcl hfz;clear hcl hfz;obtain ⟨y0,y1,y2,y3,y4⟩:=HCL.out w2 F2.out
 go_upto_region 3 with fail
 go_quiet (fail)
 obtain ⟨w3,hw3⟩:∃w3,w3=w2.drewN nq:=⟨_,rfl⟩;have F3:=O (show Fr No w1 w3 from by rw [hw3];exact F2'.out.drewN _);have F3' :=O (show Fr No w w3 from by rw [hw3];exact F2.out.drewN _);rw [←hw3];clear hw3 nq;clear F2 F2' x0 x1 x2 x3 x4 x5 x6 x7 y0 y1 y2 y3 y4 hcc hx1;obtain ⟨x0,x1,x2,x3,x4,x5,x6,x7⟩:=HS_.out w3 F3.out;obtain ⟨y0,y1,y2,y3,y4⟩:=HCL.out w3 F3'.out;have hw1:IntKind.i64.wrap (zw+1)=zw+1:=IntWalk.i64_in _ oy
 go_upto_region 4 with fail
 go_quiet (fail)
 obtain ⟨w4,hw4⟩:∃w4,w4=w3.drewN nq:=⟨_,rfl⟩;have F4:=O (show Fr No w1 w4 from by rw [hw4];exact F3.out.drewN _);have F4' :=O (show Fr No w w4 from by rw [hw4];exact F3'.out.drewN _);rw [←hw4];clear hw4 nq;clear F3 F3' x0 x1 x2 x3 x4 x5 x6 x7 y0 y1 y2 y3 y4 hw1;obtain ⟨x0,x1,x2,x3,x4,x5,x6,x7⟩:=HS_.out w4 F4.out;obtain ⟨y0,y1,y2,y3,y4⟩:=HCL.out w4 F4'.out;have p0:=HFZ.out w4 F4'.out (c*5);have p1:=HFZ.out w4 F4'.out (c*5+1);have p2:=HFZ.out w4 F4'.out (c*5+2);have p3:=HFZ.out w4 F4'.out (c*5+3);have p4:=HFZ.out w4 F4'.out (c*5+4)
 by_cases hn:nm=zw+1
 case neg=>
  have n1:(nm != zw+1)=true:=by simp [hn]
  have n2:(nm == zw+1)=false:=by simp [hn]
  have HR:=O (HR0.out.trans (if_pos hn))
  go_wp2_with fail
  go_ret
  rw [HR.out];exact ⟨rfl,HH.out.fr F4'.out (fun _ _ h=>h),F4'.out.mono fun _ h=>h.elim⟩
 have n1:(nm != zw+1)=false:=by simp [hn]
 have n2:(nm == zw+1)=true:=by simp [hn]
 obtain ⟨HR1,HN⟩:=aN (HR0.out.trans (if_neg (by simp [hn]))) hn;clear HR0 hn
 by_cases k3:kd=3
 ·subst k3
  have HR:=O (HR1.out.trans (by rw [if_pos rfl]));clear HR1;have hT:=qW (Z:=w4) ⟨nm,⟨0,sq,sq,noS⟩⟩ 0 HH.out F4'.out hc8 (by simp only;omega) (by simp only;omega);have HT:=O hT;clear hT
  go_wp2_with fail
  go_ret
  rw [HR.out];exact ⟨rfl,HT.out⟩
 have k3' :(kd == 3)=false:=by simpa using k3
 by_cases k4:kd=4
 ·subst k4
  have HR:=O (HR1.out.trans (by rw [if_neg dcd,if_pos rfl]));clear HR1;have hT:=qW (Z:=w4) ⟨nm,⟨0,sq,it,noS⟩⟩ 0 HH.out F4'.out hc8 (by simp only;omega) (by simp only;omega);have HT:=O hT;clear hT
  go_wp2_with fail
  go_ret
  rw [HR.out];exact ⟨rfl,HT.out⟩
 have k4' :(kd == 4)=false:=by simpa using k4
 have HR:=O (HR1.out.trans (by rw [if_neg k3,if_neg k4]));clear HR1;have hT:=ad8 (Z:=w4) ⟨nm,⟨0,sq,0,noS⟩⟩ HH.out F4'.out hc8 (by simp only;omega) (by simp only;omega);have HT:=O hT;clear hT
 go_wp2_with fail
 go_ret
 rw [HR.out];exact ⟨rfl,HT.out⟩
end Go.Proofs.YtodkhcbjpodgeaaGreat
