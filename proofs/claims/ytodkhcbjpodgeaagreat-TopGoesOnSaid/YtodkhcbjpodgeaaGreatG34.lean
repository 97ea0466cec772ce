/-
  The keys of a store, sorted.
-/
import Derived.Test.YtodkhcbjpodgeaaGreatG26
import Derived.Shelf.SlIter.Nil
import Derived.Shelf.SortM.Plain
import Derived.Shelf.SortM.SortNone
import Derived.Ground.GgzProg
import Derived.Ground.SlgmProg
namespace Go.Proofs.YtodkhcbjpodgeaaGreat
open Go.ChangeShapes Go.WideShapes Go.ChangeAt Go.RowKit
set_option linter.unusedVariables false
set_option maxRecDepth 100000
set_option maxHeartbeats 4000000
section
variable {w w' :World}{F G:Nat→Prop}
def Tryz.keysA_ren:Go.Shelf.Ren:=⟨fun|7=>162|10=>226|n=>n,fun|23=>194|26=>9|3=>192|28=>283|0=>0|27=>282|33=>190|4=>4|n=>n,fun|n=>n⟩
theorem Tryz.keysA:Go.Proofs.SlLaysZ.n7 Tryz.prog Tryz.keysA_ren:={
 mixed:=by kernel_rfl
 f7:=⟨Tryz.f162.name,by decide,Tryz.func162.trans (congrArg some (by kernel_rfl))⟩
 f10:=⟨Tryz.f226.name,by decide,Tryz.func226.trans (congrArg some (by kernel_rfl))⟩
 t0:=Tryz.underlying0
 a0:=Tryz.isAgg0
 z0:=Tryz.sizeOf0
 v0:=Tryz.zeroValue0
 t4:=Tryz.underlying4
 a4:=Tryz.isAgg4
 z4:=Tryz.sizeOf4
 v4:=Tryz.zeroValue4
 t23:=Tryz.underlying194
 a23:=Tryz.isAgg194
 z23:=Tryz.sizeOf194
 v23:=Tryz.zeroValue194
 t26:=Tryz.underlying9
 a26:=Tryz.isAgg9
 z26:=Tryz.sizeOf9
 v26:=Tryz.zeroValue9
 t27:=Tryz.underlying282
 a27:=Tryz.isAgg282
 z27:=Tryz.sizeOf282
 v27:=Tryz.zeroValue282
 t28:=Tryz.underlying283
 a28:=Tryz.isAgg283
 z28:=Tryz.sizeOf283
 v28:=Tryz.zeroValue283
 t33:=Tryz.underlying190
 a33:=Tryz.isAgg190
 z33:=Tryz.sizeOf190
 v33:=Tryz.zeroValue190}
def Tryz.sortedA_ren:Go.Shelf.Ren:=⟨fun|6=>161|8=>224|9=>225|11=>272|13=>157|12=>273|23=>221|24=>222|14=>296|15=>297|16=>298|17=>299|18=>300|19=>301|20=>302|21=>303|22=>304|25=>319|26=>267|27=>268|28=>320|29=>321|30=>322|31=>324|n=>n,fun|26=>9|28=>283|24=>43|0=>0|3=>3|37=>186|48=>301|50=>45|4=>4|40=>325|39=>324|45=>123|5=>5|9=>9|51=>357|55=>361|57=>385|58=>386|33=>190|n=>n,fun|n=>n⟩
theorem Tryz.sortedA:Go.Proofs.SlLaysZ.n6 Tryz.prog Tryz.sortedA_ren:={
 mixed:=by kernel_rfl
 f6:=⟨Tryz.f161.name,by decide,Tryz.func161.trans (congrArg some (by kernel_rfl))⟩
 f8:=⟨Tryz.f224.name,by decide,Tryz.func224.trans (congrArg some (by kernel_rfl))⟩
 f11:=⟨Tryz.f272.name,by decide,Tryz.func272.trans (congrArg some (by kernel_rfl))⟩
 t0:=Tryz.underlying0
 a0:=Tryz.isAgg0
 z0:=Tryz.sizeOf0
 v0:=Tryz.zeroValue0
 t24:=Tryz.underlying43
 a24:=Tryz.isAgg43
 z24:=Tryz.sizeOf43
 v24:=Tryz.zeroValue43
 t26:=Tryz.underlying9
 a26:=Tryz.isAgg9
 z26:=Tryz.sizeOf9
 v26:=Tryz.zeroValue9
 t28:=Tryz.underlying283
 a28:=Tryz.isAgg283
 z28:=Tryz.sizeOf283
 v28:=Tryz.zeroValue283
 i26:=by kernel_rfl}
def Tryz.sortA_ren:Go.Shelf.Ren:=⟨fun|6=>225|8=>157|9=>273|19=>221|20=>222|21=>296|22=>297|23=>298|24=>299|25=>300|26=>301|27=>302|28=>303|29=>304|36=>319|31=>267|32=>268|37=>320|38=>321|39=>322|41=>324|n=>n,fun|27=>43|29=>9|3=>3|32=>186|26=>43|0=>0|44=>301|46=>45|4=>4|36=>325|35=>324|41=>123|5=>5|9=>9|53=>357|57=>361|63=>385|64=>386|n=>n,fun|n=>n⟩
theorem Tryz.sortA:Go.Proofs.SlLaysM.n6 Tryz.prog Tryz.sortA_ren:={
 mixed:=by kernel_rfl
 f6:=⟨Tryz.f225.name,by decide,Tryz.func225.trans (congrArg some (by kernel_rfl))⟩
 f8:=Tryz.func157.trans (congrArg some (by kernel_rfl))
 f9:=⟨Tryz.f273.name,by decide,Tryz.func273.trans (congrArg some (by kernel_rfl))⟩
 f19:=Tryz.func221.trans (congrArg some (by kernel_rfl))
 f20:=Tryz.func222.trans (congrArg some (by kernel_rfl))
 f21:=⟨Tryz.f296.name,by decide,Tryz.func296.trans (congrArg some (by kernel_rfl))⟩
 f22:=⟨Tryz.f297.name,by decide,Tryz.func297.trans (congrArg some (by kernel_rfl))⟩
 f23:=⟨Tryz.f298.name,by decide,Tryz.func298.trans (congrArg some (by kernel_rfl))⟩
 f24:=⟨Tryz.f299.name,by decide,Tryz.func299.trans (congrArg some (by kernel_rfl))⟩
 f25:=⟨Tryz.f300.name,by decide,Tryz.func300.trans (congrArg some (by kernel_rfl))⟩
 f26:=⟨Tryz.f301.name,by decide,Tryz.func301.trans (congrArg some (by kernel_rfl))⟩
 f27:=⟨Tryz.f302.name,by decide,Tryz.func302.trans (congrArg some (by kernel_rfl))⟩
 f28:=⟨Tryz.f303.name,by decide,Tryz.func303.trans (congrArg some (by kernel_rfl))⟩
 f29:=⟨Tryz.f304.name,by decide,Tryz.func304.trans (congrArg some (by kernel_rfl))⟩
 f31:=Tryz.func267.trans (congrArg some (by kernel_rfl))
 f32:=Tryz.func268.trans (congrArg some (by kernel_rfl))
 f36:=⟨Tryz.f319.name,by decide,Tryz.func319.trans (congrArg some (by kernel_rfl))⟩
 f37:=⟨Tryz.f320.name,by decide,Tryz.func320.trans (congrArg some (by kernel_rfl))⟩
 f38:=⟨Tryz.f321.name,by decide,Tryz.func321.trans (congrArg some (by kernel_rfl))⟩
 f39:=⟨Tryz.f322.name,by decide,Tryz.func322.trans (congrArg some (by kernel_rfl))⟩
 f41:=⟨Tryz.f324.name,by decide,Tryz.func324.trans (congrArg some (by kernel_rfl))⟩
 t0:=Tryz.underlying0
 a0:=Tryz.isAgg0
 z0:=Tryz.sizeOf0
 v0:=Tryz.zeroValue0
 t3:=Tryz.underlying3
 a3:=Tryz.isAgg3
 z3:=Tryz.sizeOf3
 v3:=Tryz.zeroValue3
 t4:=Tryz.underlying4
 a4:=Tryz.isAgg4
 z4:=Tryz.sizeOf4
 v4:=Tryz.zeroValue4
 t5:=Tryz.underlying5
 a5:=Tryz.isAgg5
 z5:=Tryz.sizeOf5
 v5:=Tryz.zeroValue5
 t9:=Tryz.underlying9
 a9:=Tryz.isAgg9
 z9:=Tryz.sizeOf9
 v9:=Tryz.zeroValue9
 t26:=Tryz.underlying43
 a26:=Tryz.isAgg43
 z26:=Tryz.sizeOf43
 v26:=Tryz.zeroValue43
 t27:=Tryz.underlying43
 a27:=Tryz.isAgg43
 z27:=Tryz.sizeOf43
 v27:=Tryz.zeroValue43
 t29:=Tryz.underlying9
 a29:=Tryz.isAgg9
 z29:=Tryz.sizeOf9
 v29:=Tryz.zeroValue9
 t32:=Tryz.underlying186
 a32:=Tryz.isAgg186
 z32:=Tryz.sizeOf186
 v32:=Tryz.zeroValue186
 t35:=Tryz.underlying324
 a35:=Tryz.isAgg324
 z35:=Tryz.sizeOf324
 v35:=Tryz.zeroValue324
 t36:=Tryz.underlying325
 a36:=Tryz.isAgg325
 z36:=Tryz.sizeOf325
 v36:=Tryz.zeroValue325
 t41:=Tryz.underlying123
 a41:=Tryz.isAgg123
 z41:=Tryz.sizeOf123
 v41:=Tryz.zeroValue123
 t44:=Tryz.underlying301
 a44:=Tryz.isAgg301
 z44:=Tryz.sizeOf301
 v44:=Tryz.zeroValue301
 t46:=Tryz.underlying45
 a46:=Tryz.isAgg45
 z46:=Tryz.sizeOf45
 v46:=Tryz.zeroValue45
 t53:=Tryz.underlying357
 a53:=Tryz.isAgg357
 z53:=Tryz.sizeOf357
 v53:=Tryz.zeroValue357
 t57:=Tryz.underlying361
 a57:=Tryz.isAgg361
 z57:=Tryz.sizeOf361
 v57:=Tryz.zeroValue361
 t63:=Tryz.underlying385
 a63:=Tryz.isAgg385
 z63:=Tryz.sizeOf385
 v63:=Tryz.zeroValue385
 t64:=Tryz.underlying386
 a64:=Tryz.isAgg386
 z64:=Tryz.sizeOf386
 v64:=Tryz.zeroValue386}
theorem aij (m:Nat):AnyZ.SortsIn Tryz.prog Tryz.sortedA_ren Fence.wide m:=
 ⟨fun blk off cap ss W hH hblk hsz=>callsIn_wide.2 (AnyM.slices_Sort_string Tryz.sortA blk off cap ss W hH hblk hsz),
  fun p cap W=>callsIn_wide.2 (AnyM.slices_Sort_string_none Tryz.sortA p cap W)⟩
def uK (D:DataW Unit):List (List UInt8):=(strKeys D).mergeSort leB
theorem abe (D:DataW Unit):(uK D).length=Maps.size D:=by
 unfold uK;rw [List.length_mergeSort]
 cases D<;>simp [strKeys,Maps.size]
set_option maxHeartbeats 8000000 in
theorem aai {s:Nat}{D:DataW Unit}(h:bX w F s D):Calls Tryz.prog 117 #[.pointer (some ⟨s,0,none⟩)] w (pJ w TS_ 1 (uK D).length ((uK D).map encStr)):=by
 obtain ⟨b,f1,f2,hbk,hown,hz⟩:=h;have c0:=hbk.cell 0;simp only [List.getElem?_toArray,List.getElem?_cons_zero] at c0;clear hbk f1 f2;refine (callsIn_wide (n:=6)).1 ?_;have hbl:=hown.lt;have hseq:SeqGives Fence.wide 2 Tryz.prog 226 #[.pointer (some ⟨w.heap.size,0,none⟩)] encStr (fun ss=>ss.Perm (strKeys D)) (Maps.size D) (w.alloc (.cells #[.map (some b)] TMp)):=
  AnyZ.keys_gives (ρ:=Tryz.keysA_ren) {Tryz.keysA with} Fence.wide _ trivial rfl oy w.heap.size b _ D _ (by simp) (by simp) (by
   obtain ⟨es,clock,hb,Ft,hs,hD⟩:=hown;exact ⟨es,clock,(Below.heap_alloc _ _ b hbl).trans hb,Ft,hs,hD⟩)
 have cK:∀mb W,CallsIn Fence.wide 5 Tryz.prog 162 #[.map mb] W fun e w' =>e= .returned (.func (.func 226) #[] #[.pointer (some ⟨W.heap.size,0,none⟩)])∧w' =W.alloc (.cells #[.map mb] TMp):=fun mb W=>AnyZ.keys_in Tryz.keysA Fence.wide 5 trivial rfl mb W;have cS:=AnyZ.sorted_in Tryz.sortedA Fence.wide 5 trivial trivial trivial trivial rfl oy (aij _) (enters_of Tryz.func225 (by kernel_rfl) rfl) 226 #[.pointer (some ⟨w.heap.size,0,none⟩)] trivial (enters_of Tryz.func226 (by kernel_rfl) rfl) _ _ mxl oy _ hseq
 change CallsIn _ _ Tryz.prog 161 _ _ _ at cS
 have hfK:Fence.wide.fn 162:=trivial;have hfS:Fence.wide.fn 161:=trivial;clear hown hseq;refine callsIn_of_wp Tryz.func117 rfl trivial ?_ rfl;simp only [Tryz.ntmps117,List.size_toArray,List.length_cons,List.length_nil,Nat.reduceAdd,Nat.reduceSub,Array.replicate_succ,Array.replicate_zero,List.push_toArray,List.append_toArray,List.nil_append,List.cons_append]
 gi_wp2_with (first
  |(gi_at_call 162;refine (cK _ _).mono ?_;rintro e w' ⟨rfl,rfl⟩)
  |(gi_at_call 161;refine cS.mono ?_;rintro e w' ⟨v,ss,rfl,hS,hrow,hnil,hb⟩))
 go_ret
 have hfr:Fr No w w' :=Fr.of_below (((Below.refl _ w).alloc (Nat.le_refl _) _).trans (hb.mono (by simp)));have hk:ss.mergeSort (fun x y=>decide (x≤y))=uK D:=mergeSort_of_perm hS;have hn:ss.length=(uK D).length:=by unfold uK;rw [List.length_mergeSort];exact hS.length_eq
 rw [hk,hn] at hrow;have hrow' :=ownsRow_base_a (base' :=w.heap.size) hrow (by simp);obtain ⟨A,c,rfl,hA⟩:=ay hrow';exact ⟨A,c,rfl,⟨ownsRow_base_a hrow' (Nat.zero_le _),fun g hg=>(hrow'.lt g hg).1⟩,hfr⟩
end
section
set_option linter.unusedSimpArgs false
variable {w w' :World}{F G:Nat→Prop}
theorem afa (w:World)(x:Le)(ep t:Int):Calls Tryz.prog 79 #[.agg #[.int .i64 x.it,.int .i64 x.cl,.int .i64 x.ep,.int .i64 x.un],.int .i64 ep,.int .i64 t] w fun e w' =>e= .returned (.bool (yM x ep t))∧Fr No w w' :=by
 obtain ⟨it,cl,xe,un⟩:=x;unfold yM;simp only;rw [show decide (xe=ep)=(xe == ep) from rfl]
 cases h1:xe == ep
 ·go_in
  go_wp2_with fail
  go_ret
  exact ⟨rfl,aj _ _⟩
 ·go_in
  go_wp2_with fail
  go_ret
  exact ⟨rfl,aj _ _⟩
theorem iN {α:Type}(p:α→Bool){l:List α}{k:Nat}{x:α}(h:l[k]? =some x):(l.take (k+1)).any p=((l.take k).any p || p x):=by
 rw [List.take_add_one,h]
 simp
theorem ac7 {α:Type}(p:α→Bool){l:List α}{k:Nat}{x:α}(h:l[k]? =some x)(hp:p x=true):l.any p=true:=List.any_eq_true.2 ⟨x,List.mem_of_getElem? h,hp⟩
theorem abr {q:Nat}{its:List It}{les:List Le}{gr:Int}(h:aV w F q its les gr)(hl:les.length≤1000000)(cl ep it t:Int):
  Calls Tryz.prog 121 #[.pointer (some ⟨q,0,none⟩),.int .i64 cl,.int .i64 ep,.int .i64 it,.int .i64 t] w fun e w' =>e= .returned (.bool (sI les cl ep it t))∧Fr No w w' :=by
 obtain ⟨Ai,ci,Al,c2,hf,hb,o1,o2⟩:=h;have hrd:=o2.rd;have hat:=fun i (hi:i<les.length)=>hrd.afc hi;have c0:=hb.cell 1;simp only [List.getElem?_toArray,List.getElem?_cons_zero,List.getElem?_cons_succ] at c0;clear hb o1 o2 hrd hf;obtain ⟨p,hp⟩:∃p:Le→Bool,p=fun l=>(l.it == it) && (l.cl == cl) && yM l ep t:=⟨_,rfl⟩;have hH:sI les cl ep it t=les.any p:=by rw [hp];rfl
 rw [hH];have hpx:=fun x=>congrFun hp x;obtain ⟨HAT,HPX⟩:=aN hat hpx;clear hat hpx;clear hp hH
 go_in
 go_wp2_with fail
 clear c0
 go_loopw [18] (fun i wr=>∃k:Nat,k≤les.length∧i= .int .i64 k∧(les.take k).any p=false∧Fr No w wr) (fun i _=>les.length-(intOf i).toNat)
 case atStart=>exact ⟨0,Nat.zero_le _,rfl,rfl,Fr.refl _ _⟩
 case round=>
  obtain ⟨k,hk,rfl,hno,hf⟩:=hrel;obtain ⟨HNO,hF⟩:=aN hno hf;clear hf hno
  by_cases hlt:k<les.length
  ·obtain ⟨b,off,x,rfl,hx,hcl⟩:=HAT.out k hlt
   have HX:=O hx;obtain ⟨x0,x1,x2,x3⟩:=hcl wr hF.out;obtain ⟨HCL,HP⟩:=aN hcl (HPX.out x);clear hcl hx;obtain ⟨xi,xc,xe,xu⟩:=x;simp only at x0 x1 x2 x3 HP;have hlive:=afa (wr.alloc (.cells #[.int .i64 xi,.int .i64 xc,.int .i64 xe,.int .i64 xu] TLe)) ⟨xi,xc,xe,xu⟩ ep t;generalize yM ⟨xi,xc,xe,xu⟩ ep t=lv at hlive HP;have HL:=O hlive;clear hlive
   cases d1:xi == it
   ·have HE:Hid (p ⟨xi,xc,xe,xu⟩=false):=O (by rw [HP.out,d1];rfl)
    clear HP
    go_wp2_with fail
    go_roundw
    case rel=>exact ⟨k+1,by omega,by go_num,(by rw [iN p HX.out,HNO.out,HE.out];rfl),hF.out.alloc _⟩
    case measure=>simp [intOf];omega
   ·cases d2:xc == cl
    ·have HE:Hid (p ⟨xi,xc,xe,xu⟩=false):=O (by rw [HP.out,d1,d2];rfl)
     clear HP
     go_wp2_with fail
     go_roundw
     case rel=>exact ⟨k+1,by omega,by go_num,(by rw [iN p HX.out,HNO.out,HE.out];rfl),hF.out.alloc _⟩
     case measure=>simp [intOf];omega
    ·have HE:Hid (p ⟨xi,xc,xe,xu⟩=lv):=O (by rw [HP.out,d1,d2];rfl)
     clear HP
     go_wp2_with fail
     refine HL.out.mono ?_;rintro e w5 ⟨rfl,f5⟩;have F5:=O ((hF.out.alloc _).ah f5);clear f5 x0 x1 x2 x3 HL
     rcases lv with _|_
     ·go_wp2_with fail
      go_roundw
      case rel=>exact ⟨k+1,by omega,by go_num,(by rw [iN p HX.out,HNO.out,HE.out];rfl),F5.out⟩
      case measure=>simp [intOf];omega
     ·have hT:=O (ac7 p HX.out HE.out)
      go_wp2_with fail
      go_ret
      exact ⟨(by rw [hT.out];rfl),F5.out⟩
  ·have hta:les.take k=les:=List.take_of_length_le oy
   have hN:=HNO.out;rw [hta] at hN;have HN:=O hN;clear hta hN
   go_wp2_with fail
   go_ret
   exact ⟨(by rw [HN.out];rfl),hF.out⟩
theorem ajj (p:It→Bool)(l:List It):decide (0≤yQ p l)=l.any p:=by
 unfold yQ
 cases l.any p
 ·rfl
 ·exact decide_eq_true (by simp only [if_true];omega)
theorem ajy {A:Option Addr}{c:Nat}{l:List It}(hA:A=none→l.length=0)(hr:Rd w w.heap.size A (itV l))(hlc:l.length≤c)(hcm:c≤maxLen)(g:Nat)(n:Int)(h:w.cell? ⟨g,4,none⟩=some (.int .i64 n))(hg:g<w.heap.size):
  Calls Tryz.prog 119 #[.slice A l.length c,.func (.func 120) #[] #[.pointer (some ⟨g,0,none⟩)]] w fun e w' =>e= .returned (.bool (l.any fun t=>t.nm == n))∧Fr No w w' :=by
 have hi:=ame hA hr hlc hcm g n h hg;rw [←ajj];generalize yQ (fun t=>t.nm == n) l=ix at hi ⊢;clear hA hr hlc hcm h hg
 go_in
 go_wp2_with fail
 refine hi.mono ?_;clear hi;rintro e w5 ⟨rfl,f5⟩
 go_wp2_with fail
 go_ret
 exact ⟨rfl,f5⟩
end
section
set_option linter.unusedSimpArgs false
variable {w w' :World}{F G:Nat→Prop}
theorem lN {V:World}{g:Nat}{r:Rq}(h:Blk V g TRq r.arr):V.cell? ⟨g,0,none⟩=some (.int .i64 r.tn)∧V.cell? ⟨g,1,none⟩=some (.int .i64 r.cl)∧V.cell? ⟨g,2,none⟩=some (.int .i64 r.nm)∧V.cell? ⟨g,3,none⟩=some (.int .i64 r.op)∧V.cell? ⟨g,4,none⟩=some (.int .i64 r.it)∧V.cell? ⟨g,5,none⟩=some (.string r.ky)∧V.cell? ⟨g,6,none⟩=some (.string r.vl):=
 ⟨h.cell 0,h.cell 1,h.cell 2,h.cell 3,h.cell 4,h.cell 5,h.cell 6⟩
theorem aM.parts {p:Nat}{c:Kp}(h:aM w F p c):∃s q t g Ah ch,(∀V,Fr No w V→(V.cell? ⟨p,0,none⟩=some (.int .i64 c.cell)∧V.cell? ⟨p,1,none⟩=some (.int .i64 c.ten)∧V.cell? ⟨p,2,none⟩=some (.slice Ah c.h.length ch)∧V.cell? ⟨p,3,none⟩=some (.pointer (some ⟨s,0,none⟩))∧V.cell? ⟨p,4,none⟩=some (.pointer (some ⟨q,0,none⟩))∧V.cell? ⟨p,5,none⟩=some (.pointer (some ⟨t,0,none⟩))∧V.cell? ⟨p,6,none⟩=some (.pointer (some ⟨g,0,none⟩))))∧
  (∀V,Fr No w V→gI V F s q t c.nw)∧(∀V,Fr No w V→bY V F g c.cell c.cd c.ws):=by
 obtain ⟨s,q,t,g,Ah,ch,b,o,n,k⟩:=h.at_;exact ⟨s,q,t,g,Ah,ch,fun V hV=>have b:=b.fr hV id;⟨b.cell 0,b.cell 1,b.cell 2,b.cell 3,b.cell 4,b.cell 5,b.cell 6⟩,fun V hV=>n.fr hV (fun _ _ h=>h),fun V hV=>k.fr hV (fun _ _ h=>h)⟩
set_option maxHeartbeats 8000000 in
theorem alz {p:Nat}{c:Kp}(h:aM w F p c)(r:Rq)(hk:r.ky.size≤maxLen)(hop:r.op=2∨r.op=3∨r.op=4∨r.op=6)(hi:c.nw.its.length≤1000000)(hl:c.nw.les.length≤1000000)(ep t:Int):
  Calls Tryz.prog 82 #[.pointer (some ⟨p,0,none⟩),.int .i64 ep,.int .i64 t,.agg r.arr] w fun e w' =>e= .returned (.tuple #[.int .i64 (opF c ep t r).1,.int .i64 (opF c ep t r).2])∧Fr No w w' :=by
 obtain ⟨s,q,tt,g,Ah,ch,hcp,hnw,hgt⟩:=h.parts;clear hgt;have amx:(sK c.nw.D r.ky).2.2=Maps.has c.nw.D (kL r.ky):=by
  obtain ⟨m,_,_,_,o,_⟩:=(hnw w (Fr.refl _ _)).1;obtain ⟨s1,n1,hd,_⟩:=wS o r.ky hk;rw [ab3 hd]
 obtain ⟨tn,cl,nm,op,it,ky,vl⟩:=r;simp only [Rq.arr] at*;obtain ⟨w1,hw1⟩:∃w1,w1=w.alloc (.cells #[.int .i64 tn,.int .i64 cl,.int .i64 nm,.int .i64 op,.int .i64 it,.string ky,.string vl] TRq):=⟨_,rfl⟩;obtain ⟨g1,hg1⟩:∃g1,g1=w.heap.size:=⟨_,rfl⟩;have f1:Fr No w w1:=by rw [hw1];exact aj _ _
 have b1:Blk w1 g1 TRq (Rq.arr ⟨tn,cl,nm,op,it,ky,vl⟩):=by rw [hw1,hg1];exact Blk.new _ _ _
 have hx:=fun V (hV:Fr No w1 V)=>(⟨hcp V (f1.ah hV),lN (b1.fr hV id)⟩:_∧_);simp only at hx;have hget:=fun V (hV:Fr No w1 V)=>ab2 (hnw V (f1.ah hV)).1 ky hk;have hkey:=fun V (hV:Fr No w1 V)=>aai (hnw V (f1.ah hV)).1;have hits:=fun V (hV:Fr No w1 V)=>yA (hnw V (f1.ah hV)).2.1 hi;have ati:=fun V (hV:Fr No w1 V)=>abr (hnw V (f1.ah hV)).2.1 hl cl ep it t;rw [abe] at hkey;have hlt1:g1<w1.heap.size:=b1.lt;have hOP:opF c ep t ⟨tn,cl,nm,op,it,ky,vl⟩=if op=2 then (if !(sK c.nw.D ky).2.2 && decide (32≤Maps.size c.nw.D) then (0,33) else (1,0)) else if op=3 then (if (sK c.nw.D ky).2.2 then (2,0) else (0,34)) else if op=4 then (if 16≤c.nw.its.length then (0,33) else (3,0)) else if !c.nw.its.any (fun x=>x.nm == it) then (0,34) else if !sI c.nw.les cl ep it t then (0,35) else (4,0):=by rw [amx];rfl
 generalize opF c ep t ⟨tn,cl,nm,op,it,ky,vl⟩=R at hOP ⊢;obtain ⟨gv,gs,gh⟩:ByteArray×Int×Bool:=sK c.nw.D ky;obtain ⟨GV,hGV⟩:∃GV,GV=sK c.nw.D ky:=⟨_,rfl⟩;rw [←hGV] at hget hOP;obtain ⟨gv,gs,gh⟩:=GV;simp only at hget hOP;have hDs:Maps.size c.nw.D≤32:=by obtain ⟨m,_,_,_,_,z⟩:=(hnw w (Fr.refl _ _)).1;exact z
 clear hGV amx hcp hnw h b1;obtain ⟨HOP,HX,akd,HKEY,HITS,avf,HW1,HG1,F1⟩:=akp hOP hx hget hkey hits ati hw1 hg1 f1;clear hOP hx hget hkey hits ati hw1 hg1 f1
 go_in
 go_upto_region 1 with fail
 rw [←HW1.out,←HG1.out];obtain ⟨⟨p0,p1,p2,p3,p4,p5,p6⟩,x0,x1,x2,x3,x4,x5,x6⟩:=HX.out w1 (Fr.refl _ _)
 go_region_held3 (fun V=>V.cell? ⟨p,3,none⟩=some (.pointer (some ⟨s,0,none⟩))∧V.cell? ⟨g1,5,none⟩=some (.string ky)) ((exact ⟨(HX.out _ (by with_reducible ((repeat (first|assumption|exact Fr.refl _ _|refine Fr.alloc ?_ _|refine Fr.drew ?_|refine Fr.drewN ?_ _));done))).1.2.2.2.1,(HX.out _ (by with_reducible ((repeat (first|assumption|exact Fr.refl _ _|refine Fr.alloc ?_ _|refine Fr.drew ?_|refine Fr.drewN ?_ _));done))).2.2.2.2.2.2.1⟩)) (first
  |(go_at_call 43;refine (akd.out _ (by with_reducible ((repeat (first|assumption|exact Fr.refl _ _|refine Fr.alloc ?_ _|refine Fr.drew ?_|refine Fr.drewN ?_ _));done))).mono ?_;rintro r2 v3 ⟨rfl,f3⟩;have Q3:Fr No w1 v3:=Fr.ah (by with_reducible ((repeat (first|assumption|exact Fr.refl _ _|refine Fr.alloc ?_ _|refine Fr.drew ?_|refine Fr.drewN ?_ _));done)) f3;clear f3))
 have F3:=O Q3;clear p0 p1 p2 p3 p4 p5 p6 x0 x1 x2 x3 x4 x5 x6 Q3 akd;obtain ⟨⟨p0,p1,p2,p3,p4,p5,p6⟩,x0,x1,x2,x3,x4,x5,x6⟩:=HX.out v3 F3.out;have hkey:=HKEY.out v3 F3.out;have hits:=HITS.out v3 F3.out;have HF3:=O (F1.out.ah F3.out)
 rcases hop with hop|hop|hop|hop
 ·subst hop
  have HR:=O (HOP.out.trans (if_pos rfl));clear HOP
  cases gh
  ·have hkey:=O hkey
   by_cases hz:32≤Maps.size c.nw.D
   ·have hzi:(32:Int)≤(Maps.size c.nw.D:Int):=by omega
    have HR2:=O (HR.out.trans (if_pos (by simp [hz])))
    go_wp2_with fail
    refine hkey.out.mono ?_;rintro e v4 ⟨A4,c4,rfl,o4,f4⟩;have F4:=O (HF3.out.ah f4);clear o4 f4
    go_wp2_with fail
    all_goals go_ret2
    all_goals (rw [HR2.out];exact ⟨rfl,F4.out⟩)
   ·have hzi:(Maps.size c.nw.D:Int)<32:=by omega
    have HR2:=O (HR.out.trans (if_neg (by simp [hz])))
    go_wp2_with fail
    refine hkey.out.mono ?_;rintro e v4 ⟨A4,c4,rfl,o4,f4⟩;have F4:=O (HF3.out.ah f4);clear o4 f4
    go_wp2_with fail
    all_goals go_ret2
    all_goals (rw [HR2.out];exact ⟨rfl,F4.out⟩)
  ·have HR2:=O (HR.out.trans (if_neg (by simp)))
   go_wp2_with fail
   all_goals go_ret2
   all_goals (rw [HR2.out];exact ⟨rfl,HF3.out⟩)
 ·subst hop
  have HR:=O ((HOP.out.trans (if_neg dcd)).trans (if_pos rfl));clear HOP
  cases gh
  ·have HR2:=O (HR.out.trans (if_neg (by simp)))
   go_wp2_with fail
   all_goals go_ret2
   all_goals (rw [HR2.out];exact ⟨rfl,HF3.out⟩)
  ·have HR2:=O (HR.out.trans (if_pos rfl))
   go_wp2_with fail
   all_goals go_ret2
   all_goals (rw [HR2.out];exact ⟨rfl,HF3.out⟩)
 ·subst hop
  have HR:=O (((HOP.out.trans (if_neg dcd)).trans (if_neg dcd)).trans (if_pos rfl));clear HOP
  by_cases hz:16≤c.nw.its.length
  ·have hzi:(16:Int)≤(c.nw.its.length:Int):=by omega
   have HR2:=O (HR.out.trans (if_pos hz))
   go_wp2_with fail
   refine hits.mono ?_;rintro e v4 ⟨A4,c4,rfl,o4,f4⟩;have F4:=O (HF3.out.ah f4);clear o4 f4 hits
   go_wp2_with fail
   all_goals go_ret2
   all_goals (rw [HR2.out];exact ⟨rfl,F4.out⟩)
  ·have hzi:(c.nw.its.length:Int)<16:=by omega
   have HR2:=O (HR.out.trans (if_neg hz))
   go_wp2_with fail
   refine hits.mono ?_;rintro e v4 ⟨A4,c4,rfl,o4,f4⟩;have F4:=O (HF3.out.ah f4);clear o4 f4 hits
   go_wp2_with fail
   all_goals go_ret2
   all_goals (rw [HR2.out];exact ⟨rfl,F4.out⟩)
 ·subst hop
  have HR:=O (((HOP.out.trans (if_neg dcd)).trans (if_neg dcd)).trans (if_neg dcd));clear HOP
  go_wp2_with fail
  refine hits.mono ?_;rintro e v4 ⟨A4,c4,rfl,o4,f4⟩;have F4:=O (F3.out.ah f4);obtain ⟨h41,h42⟩:=o4.cap;have hA4:A4=none→c.nw.its.length=0:=by obtain ⟨_,_,e,n0⟩:=o4.form;cases e;exact n0
  have aq2:=ajy (w:=v4) (l:=c.nw.its) hA4 o4.rd h41 h42 g1 it (HX.out v4 F4.out).2.2.2.2.2.1 (nll hlt1 F4.out.size);clear o4 f4 hits p0 p1 p2 p3 p4 p5 p6 x0 x1 x2 x3 x4 x5 x6 hA4 h41 h42 hkey;generalize c.nw.its.any (fun x=>x.nm == it)=ia at aq2 HR
  go_wp2_with fail
  refine aq2.mono ?_;rintro e v5 ⟨rfl,f5⟩;have F5:=O (F4.out.ah f5);clear f5 aq2
  cases ia
  ·have HR2:=O (HR.out.trans (if_pos rfl))
   go_wp2_with fail
   all_goals go_ret2
   all_goals (rw [HR2.out];exact ⟨rfl,F1.out.ah F5.out⟩)
  ·have HR3:=O (HR.out.trans (if_neg (by simp)))
   clear HR;generalize sI c.nw.les cl ep it t=hv at avf HR3;obtain ⟨⟨p0,p1,p2,p3,p4,p5,p6⟩,x0,x1,x2,x3,x4,x5,x6⟩:=HX.out v5 F5.out
   go_upto_region 17 with fail
   go_region_held3 (fun V=>V.cell? ⟨p,4,none⟩=some (.pointer (some ⟨q,0,none⟩))∧V.cell? ⟨g1,1,none⟩=some (.int .i64 cl)∧V.cell? ⟨g1,4,none⟩=some (.int .i64 it)) ((exact ⟨(HX.out _ (F5.out.ah (by with_reducible ((repeat (first|assumption|exact Fr.refl _ _|refine Fr.alloc ?_ _|refine Fr.drew ?_|refine Fr.drewN ?_ _));done)))).1.2.2.2.2.1,(HX.out _ (F5.out.ah (by with_reducible ((repeat (first|assumption|exact Fr.refl _ _|refine Fr.alloc ?_ _|refine Fr.drew ?_|refine Fr.drewN ?_ _));done)))).2.2.1,(HX.out _ (F5.out.ah (by with_reducible ((repeat (first|assumption|exact Fr.refl _ _|refine Fr.alloc ?_ _|refine Fr.drew ?_|refine Fr.drewN ?_ _));done)))).2.2.2.2.2.1⟩)) (first
    |(go_at_call 121;refine (avf.out _ (F5.out.ah (by with_reducible ((repeat (first|assumption|exact Fr.refl _ _|refine Fr.alloc ?_ _|refine Fr.drew ?_|refine Fr.drewN ?_ _));done)))).mono ?_;rintro r2 v6 ⟨rfl,f6⟩;have Q6:Fr No v5 v6:=Fr.ah (by with_reducible ((repeat (first|assumption|exact Fr.refl _ _|refine Fr.alloc ?_ _|refine Fr.drew ?_|refine Fr.drewN ?_ _));done)) f6;clear f6))
   have F6:=O (F1.out.ah (F5.out.ah Q6));clear p0 p1 p2 p3 p4 p5 p6 x0 x1 x2 x3 x4 x5 x6 Q6
   cases hv
   ·have HR2:=O (HR3.out.trans (if_pos rfl))
    go_wp2_with fail
    all_goals go_ret2
    all_goals (rw [HR2.out];exact ⟨rfl,F6.out⟩)
   ·have HR2:=O (HR3.out.trans (if_neg (by simp)))
    go_wp2_with fail
    all_goals go_ret2
    all_goals (rw [HR2.out];exact ⟨rfl,F6.out⟩)
end
section
set_option linter.unusedSimpArgs false
variable {w w' :World}{F G:Nat→Prop}
def wnB (x:Wn):Bool:=btw 1 1048576 x.ep && decide (0≤x.vs) && decide (x.vs<30) && btw 0 1073741824 x.fm && decide (x.fm<x.un) && decide (x.un≤1073743824)
theorem zN {x:Wn}(h:wnB x=true):1≤x.ep∧x.ep≤1048576∧0≤x.vs∧x.vs<30∧0≤x.fm∧x.fm≤1073741824∧x.fm<x.un∧x.un≤1073743824:=by
 simp [wnB,btw] at h
 obtain ⟨⟨⟨⟨⟨⟨h1,h2⟩,h3⟩,h4⟩,h5,h6⟩,h7⟩,h8⟩:=h;exact ⟨h1,h2,h3,h4,h5,h6,h7,h8⟩
theorem yV (w:World)(x:Wn)(hx:wnB x=true):Calls Tryz.prog 36 #[.agg #[.int .i64 x.cl,.int .i64 x.ep,.int .i64 x.vs,.int .i64 x.fm,.int .i64 x.un]] w fun e w' =>e= .returned (.bool true)∧Fr No w w' :=by
 obtain ⟨h1,h2,h3,h4,h5,h6,h7,h8⟩:=zN hx;obtain ⟨cl,ep,vs,fm,un⟩:=x;simp only at h1 h2 h3 h4 h5 h6 h7 h8;clear hx
 go_in
 go_wp2_with fail
 go_ret
 exact ⟨rfl,aj _ _⟩
theorem aj0 (w:World)(A:Option Addr)(c:Nat)(x:Wn)(f:Value):Calls Tryz.prog 37 #[.slice A 0 c,.agg #[.int .i64 x.cl,.int .i64 x.ep,.int .i64 x.vs,.int .i64 x.fm,.int .i64 x.un],f] w fun e w' =>e= .returned (.tuple #[.int .i64 0,.bool false])∧Fr No w w' :=by
 go_in
 go_wp2_with fail
 have hf:=aj w (.cells #[.int .i64 x.cl,.int .i64 x.ep,.int .i64 x.vs,.int .i64 x.fm,.int .i64 x.un] nK);generalize w.alloc (.cells #[.int .i64 x.cl,.int .i64 x.ep,.int .i64 x.vs,.int .i64 x.fm,.int .i64 x.un] nK)=w1 at hf ⊢;have HF:=O hf;clear hf
 go_loopw [9,10] (fun i j wr=>i= .int .i64 0∧j= .int .i64 0∧wr=w1) (fun i _ _=>0)
 case atStart=>exact ⟨rfl,rfl,rfl⟩
 case round=>
  obtain ⟨rfl,rfl,rfl⟩:=hrel
  go_upto_region 8 with fail
  go_quiet (fail)
  all_goals (try go_wp2_with fail)
  all_goals go_ret2
  all_goals exact ⟨rfl,HF.out.drewN _⟩
theorem ak7 (x:Wn):wnV [x]=[.int .i64 x.cl,.int .i64 x.ep,.int .i64 x.vs,.int .i64 x.fm,.int .i64 x.un]:=by simp [wnV,Wn.cells]
theorem Rd.ai0 {g:Nat}{t:TypeId}{xs:List Value}(h:Blk w g t xs.toArray):Rd w w.heap.size (some ⟨g,0,none⟩) xs:=by
 refine .inr ⟨g,0,rfl,h.lt,fun j hj=> ?_⟩;have:=h.cell j;rw [Nat.zero_add,this,List.getElem?_toArray,List.getElem?_eq_getElem hj]
theorem afh {A:Option Addr}{c g:Nat}{x:Wn}(h:aA w F nK 5 (.slice A 0 c) 0 [])(hb:Blk w g nK (wnV [x]).toArray):
  Calls Tryz.prog 39 #[.slice A 0 c,.int .i64 0,.slice (some ⟨g,0,none⟩) 1 1] w fun e w' =>∃A' c',e= .returned (.slice A' 1 c')∧aA w' (fun i=>F i∨w.heap.size≤i) nK 5 (.slice A' 1 c') 1 (wnV [x])∧Fr F w w' :=by
 obtain ⟨i1,hi1,hz0,hz1,hz2⟩:=info_parts uN;have ht:Tryz.prog.underlying 120=some (.slice nK):=Tryz.underlying120;have hrd:=Rd.ai0 hb;obtain ⟨HOWN,HRD⟩:=aN h hrd;clear h hb hrd
 rcases A with _|⟨b,off,ix⟩
 ·go_in
  go_wp2_with (at_builtin;refine aB _ rfl (.tmp 23) (.tmp 24) _ rfl 0 nK i1 _ 5 40 ht hi1 hz0 hz1 hz2 rfl dcd (.slice none 0 c) 0 [] rfl HOWN.out.1 w.heap.size (some ⟨g,0,none⟩) 1 1 (wnV [x]) rfl (fun h=>by cases h) HRD.out (tK _) (zM _) dcd dcd (Nat.zero_le _) ?_)
  intro v1 w2 happ;obtain ⟨A4,c4,rfl,n4⟩:=ay happ.1;clear n4;obtain ⟨o1,f1⟩:=HOWN.out.appended happ
  go_wp2_with fail
  go_ret
  exact ⟨A4,c4,rfl,o1.mono fun b hb=>(by rcases hb with hb|hb;exact .inl hb;exact .inr oy),f1⟩
 ·have hform:=HOWN.out.1
  obtain ⟨rfl,rfl⟩:off=0∧ix=none:=by
   rcases hform.2 with ⟨h,_⟩|⟨g',cap,cur,h,_⟩
   ·cases h
   ·injection h with h1 h2 h3
    injection h1 with h1;injection h1 with h1 h4 h5;exact ⟨h4,h5⟩
  obtain ⟨ad,hs2,had⟩:=jU 120 nK ht i1 hi1 b 0 c 0 (Nat.le_refl _);simp only [Int.natCast_zero,Nat.sub_zero] at hs2;clear had hform
  go_in
  go_wp2_with (at_builtin;refine aB _ rfl (.tmp 23) (.tmp 24) _ rfl 0 nK i1 _ 5 40 ht hi1 hz0 hz1 hz2 rfl dcd (.slice (some ⟨b,0,none⟩) 0 c) 0 [] rfl HOWN.out.1 w.heap.size (some ⟨g,0,none⟩) 1 1 (wnV [x]) rfl (fun h=>by cases h) HRD.out (tK _) (zM _) dcd dcd (Nat.zero_le _) ?_)
  intro v1 w2 happ;obtain ⟨A4,c4,rfl,n4⟩:=ay happ.1;clear n4;obtain ⟨o1,f1⟩:=HOWN.out.appended happ
  go_wp2_with fail
  go_ret
  exact ⟨A4,c4,rfl,o1.mono fun b hb=>(by rcases hb with hb|hb;exact .inl hb;exact .inr oy),f1⟩
theorem Blk.vw {g:Nat}{t:TypeId}{cs:Array Value}(h:Blk w g t cs):Blk w.drew g t cs:=h
theorem afq {V:World}{g:Nat}{a b d:Value}(h:Blk V g ao5 #[a,b,d]):V.cell? ⟨g,0,none⟩=some a∧V.cell? ⟨g,1,none⟩=some b∧V.cell? ⟨g,2,none⟩=some d:=⟨h.cell 0,h.cell 1,h.cell 2⟩
theorem adv {V:World}{g:Nat}{a b d e f:Value}(h:Blk V g nK #[a,b,d,e,f]):V.cell? ⟨g,0,none⟩=some a∧V.cell? ⟨g,1,none⟩=some b∧V.cell? ⟨g,2,none⟩=some d∧V.cell? ⟨g,3,none⟩=some e∧V.cell? ⟨g,4,none⟩=some f:=⟨h.cell 0,h.cell 1,h.cell 2,h.cell 3,h.cell 4⟩
theorem anc {V v8:World}{g cw c8:Nat}{Aw A8:Option Addr}{cl cd:Int}{x:Wn}(fg:F g)(bg:Blk w g ao5 #[.int .i64 cl,.int .i64 cd,.slice Aw 0 cw])(og:aA w F nK 5 (.slice Aw 0 cw) 0 [])(f06:Fr No w V)
  (o8:aA v8 (fun i=>(Value.slice Aw 0 cw).ownBlock=some i∨V.heap.size≤i) nK 5 (.slice A8 1 c8) 1 (wnV [x])) (f8:Fr (fun i=>(Value.slice Aw 0 cw).ownBlock=some i) V v8):
  bY (v8.setCell ⟨g,2,none⟩ (.slice A8 1 c8)) (fun i=>F i∨w.heap.size≤i) g cl cd [x]∧Fr F w (v8.setCell ⟨g,2,none⟩ (.slice A8 1 c8)):=by
 have b8:=(bg.fr f06 id).fr f8 (fun e=>og.aW bg dcd _ e rfl);have hs:Fr (fun i=>i=g) v8 (v8.setCell ⟨g,2,none⟩ (.slice A8 1 c8)):=(Fr.refl (fun i=>i=g) v8).setCell (p:=⟨g,2,none⟩) (.inl rfl) _;refine ⟨⟨A8,c8,.inl fg,Blk.cv (b8.aC 2 _) (by simp),(o8.fr' hs fun k hk=>o8.aW b8 dcd k hk).mono fun i h=> ?_⟩,(((f06.mono fun _ h=>h.elim).trans f8 fun i h=> .inl (og.2 i h)).setCell (.inl fg) _)⟩
 rcases h with h|h
 ·exact .inl (og.2 i h)
 ·exact .inr (Nat.le_trans f06.size h)
set_option maxHeartbeats 8000000 in
theorem ab1 {g:Nat}{cell cd:Int}(h:bY w F g cell cd [])(hF:∀i,F i→i<w.heap.size)(x:Wn)(hx:wnB x=true)(hcl:x.cl=cell)(hep:cd<x.ep):
  Calls Tryz.prog 8 #[.pointer (some ⟨g,0,none⟩),.agg #[.int .i64 x.cl,.int .i64 x.ep,.int .i64 x.vs,.int .i64 x.fm,.int .i64 x.un]] w fun e w' =>e= .returned (.int .i64 0)∧bY w' (fun i=>F i∨w.heap.size≤i) g cell cd [x]∧Fr F w w' :=by
 obtain ⟨Aw,cw,fg,bg,og⟩:=h;have hval:=fun V=>yV V x hx;have hbs:=fun V=>aj0 V Aw cw x (.func (.func 38) #[] #[]);have hlen:([]:List Wn).length=0:=rfl;have hwn:wnV ([]:List Wn)=[]:=rfl;rw [hlen] at bg og;rw [hwn] at og;have hins:=fun V (hV:Fr No w V) (g' :Nat) (hb:Blk V g' nK (wnV [x]).toArray)=>afh (og.self.au hV) hb;have hne:=og.aW bg dcd;obtain ⟨cl,ep,vs,fm,un⟩:=x;simp only at hcl hep hval hbs;simp only [ak7,List.toArray] at hins;subst hcl;obtain ⟨w1,hw1⟩:∃w1,w1=w.alloc (.cells #[.int .i64 cl,.int .i64 ep,.int .i64 vs,.int .i64 fm,.int .i64 un] nK):=⟨_,rfl⟩;obtain ⟨g1,hg1⟩:∃g1,g1=w.heap.size:=⟨_,rfl⟩;have f1:Fr No w w1:=by rw [hw1];exact aj _ _
 have b1:Blk w1 g1 nK #[.int .i64 cl,.int .i64 ep,.int .i64 vs,.int .i64 fm,.int .i64 un]:=by rw [hw1,hg1];exact Blk.new _ _ _
 have hxc:=fun V (hV:Fr No w1 V)=>(⟨afq (bg.fr (f1.ah hV) id),adv (b1.fr hV id)⟩:_∧_);have hfz:=fun V (hV:Fr No w V)=>(bg.fr hV id).frozen 2;have d1:decide (ep≤cd)=false:=dff;obtain ⟨HBG,HOG,HNE,HF⟩:=fV bg og hne hF;have hgl:g<w.heap.size:=hF g fg;have awv:g1<w1.heap.size:=b1.lt;clear hF bg og b1 hep hlen hwn hne hx;obtain ⟨aj8,HBS,axr,HW1,HG1,F1,HXC,HFZ⟩:=aou hval hbs hins hw1 hg1 f1 hxc hfz;clear hval hbs hins hw1 hg1 f1 hxc hfz
 go_in
 go_upto_region 1 with fail
 rw [←HW1.out,←HG1.out];obtain ⟨⟨p0,p1,p2⟩,x0,x1,x2,x3,x4⟩:=HXC.out w1 (Fr.refl _ _)
 go_wp2_with fail
 refine (aj8.out _).mono ?_;rintro e v3 ⟨rfl,f3⟩;have F3:=O f3;clear p0 p1 p2 x0 x1 x2 x3 x4 f3 aj8;obtain ⟨⟨p0,p1,p2⟩,x0,x1,x2,x3,x4⟩:=HXC.out v3 F3.out
 go_upto_region 3 with fail
 go_quiet (fail)
 have f4:Fr No v3 (v3.drewN nq):=(Fr.refl _ _).drewN _;generalize v3.drewN nq=v4 at f4 ⊢;have F4:=O (F3.out.ah f4);clear p0 p1 p2 x0 x1 x2 x3 x4 f4 F3;obtain ⟨⟨p0,p1,p2⟩,x0,x1,x2,x3,x4⟩:=HXC.out v4 F4.out
 go_upto_region 5 with fail
 go_quiet (fail)
 have f5:Fr No v4 (v4.drewN nq):=(Fr.refl _ _).drewN _;generalize v4.drewN nq=v5 at f5 ⊢;have F5:=O (F4.out.ah f5);clear p0 p1 p2 x0 x1 x2 x3 x4 f5 F4;obtain ⟨⟨p0,p1,p2⟩,x0,x1,x2,x3,x4⟩:=HXC.out v5 F5.out
 go_upto_region 7 with fail
 go_region_held3 (fun V=>(V.cell? ⟨g,2,none⟩=some (.slice Aw 0 cw))∧(V.cell? ⟨g1,0,none⟩=some (.int .i64 cl)∧V.cell? ⟨g1,1,none⟩=some (.int .i64 ep)∧V.cell? ⟨g1,2,none⟩=some (.int .i64 vs)∧V.cell? ⟨g1,3,none⟩=some (.int .i64 fm)∧V.cell? ⟨g1,4,none⟩=some (.int .i64 un))) ((refine ⟨(HXC.out _ (F5.out.ah ?_)).1.2.2,(HXC.out _ (F5.out.ah ?_)).2⟩<;>(with_reducible ((repeat (first|assumption|exact Fr.refl _ _|refine Fr.alloc ?_ _|refine Fr.drew ?_|refine Fr.drewN ?_ _|refine Fr.setCell ?_ (.inr (Nat.le_refl _)) _));done)))) (first
  |(go_at_call 37;refine (HBS.out _).mono ?_;rintro r2 v6 ⟨rfl,f6⟩;have Q6:Fr No v5 v6:=Fr.ah (by with_reducible ((repeat (first|assumption|exact Fr.refl _ _|refine Fr.alloc ?_ _|refine Fr.drew ?_|refine Fr.drewN ?_ _));done)) f6;clear f6))
 have F6:=O (F5.out.ah Q6);clear p0 p1 p2 x0 x1 x2 x3 x4 Q6 F5 HBS;obtain ⟨⟨p0,p1,p2⟩,x0,x1,x2,x3,x4⟩:=HXC.out v6 F6.out
 go_upto_region 9 with fail
 have hT8:∀V W,Fr No v6 V→Fr (fun i=>(Value.slice Aw 0 cw).ownBlock=some i) V W→(W.cell? ⟨g,2,none⟩=some (.slice Aw 0 cw)∧W.frozen? ⟨g,2,none⟩=false):=fun V W hV hW=>
  have hb:=(HBG.out.fr (F1.out.ah (F6.out.ah hV)) id).fr hW (fun e=>HNE.out _ e rfl)
  ⟨hb.cell 2,hb.frozen 2⟩
 have HT8:=O hT8;have awo:g<v6.heap.size:=nll hgl (F1.out.ah F6.out).size;have aze:g1<v6.heap.size:=nll awv F6.out.size;have z2:=HFZ.out v6 (F1.out.ah F6.out);clear hT8
 go_region_law (first
  |(go_simp;go_at_call 39;refine (axr.out _ (F1.out.ah (F6.out.ah fry)) _ (Blk.new _ _ _).vw).mono ?_;rintro r2 v8 ⟨A8,c8,rfl,o8,f8⟩;obtain ⟨y0_,y1_⟩:=HT8.out _ v8 fry f8))
 all_goals
  have hfin:=anc (x:=⟨cl,ep,vs,fm,un⟩) fg HBG.out HOG.out (F1.out.ah (F6.out.ah fry)) o8 f8;have eu:=O hfin;clear hfin
  go_wp2_with fail
  go_ret
  exact ⟨rfl,eu.out⟩
theorem aM.gated {p:Nat}{c:Kp}(h:aM w F p c):∃g,w.cell? ⟨p,6,none⟩=some (.pointer (some ⟨g,0,none⟩))∧bY w (Of w F ad7) g c.cell c.cd c.ws∧∀(X:World) (cd:Int) (ws:List Wn),bY X (fun i=>Of w F ad7 i∨w.heap.size≤i) g c.cell cd ws→Fr (Of w F ad7) w X→
  CTo w F p {c with cd:=cd,ws:=ws} X:=by
 obtain ⟨s,q,t,g,Ah,ch,b,o,n,k⟩:=h.at_;refine ⟨g,b.cell 6,k.of,fun X cd ws hq hf=> ?_⟩;have hsz:=hf.size;have hm:∀(T:List Nat) i,Of w F T i→(F i∨w.heap.size≤i)∧i<X.heap.size:=fun T i h=>⟨.inl h.sub,nll h.lt hsz⟩;have hp:=b.of (T:=[nW+1]) h.fp dcd;refine ⟨fun i=>(F i∨w.heap.size≤i)∧i<X.heap.size,⟨fun i h=>h.2,hm _ p hp,s,q,t,g,Ah,ch,b.fr hf (hp.apart dcd),((o.of (T:=[TCh+1]) dcd).frF hf (fun i h=>h.apart dcd)).mono (hm _),⟨(n.1.of.fr hf (fun i h=>h.apart dcd)).mono (hm _),(n.2.1.of.fr hf (fun i h=>h.apart dcd)).mono (hm _),(n.2.2.of.fr hf (fun i h=>h.apart dcd)).mono (hm _)⟩,hq.le.mono (fun i h=>⟨h.1.elim (fun h=> .inl h.sub) .inr,h.2⟩)⟩,fun i h=>h.1,hf.mono fun i h=>h.sub⟩
theorem qp {p g:Nat}{c:Kp}(h:aM w F p c)(hg:w.cell? ⟨p,6,none⟩=some (.pointer (some ⟨g,0,none⟩)))(hws:c.ws=[])(x:Wn)(hx:wnB x=true)(hcl:x.cl=c.cell)(hep:c.cd<x.ep):
  Calls Tryz.prog 8 #[.pointer (some ⟨g,0,none⟩),.agg #[.int .i64 x.cl,.int .i64 x.ep,.int .i64 x.vs,.int .i64 x.fm,.int .i64 x.un]] w fun e w' =>e= .returned (.int .i64 0)∧CTo w F p {c with ws:=[x]} w' :=by
 obtain ⟨g',hg',hk,hto⟩:=h.gated;obtain rfl:g=g' :=by have:=hg.symm.trans hg';simpa using this
 rw [hws] at hk;exact (ab1 hk (fun i h=>h.lt) x hx hcl hep).mono fun e w' ⟨h1,h2,h3⟩=>⟨h1,hto w' c.cd [x] h2 h3⟩
end
section
set_option linter.unusedSimpArgs false
variable {w w' :World}{F G:Nat→Prop}
abbrev TCf:TypeId:=101
abbrev TZn:TypeId:=172
abbrev TCl:TypeId:=174
abbrev TTn:TypeId:=176
abbrev TVr:TypeId:=178
abbrev TIm:TypeId:=3
theorem gY {w:World}{g n size:Nat}{t:TypeId}{cs:Array Value}(h:Blk w g t cs)(hs:cs.size=n*size)(hn:n≤maxLen):aA w (fun b=>b=g) t size (.slice (some ⟨g,0,none⟩) n n) n cs.toList:=by
 refine ⟨⟨by simpa using hs,.inr ⟨g,n,cs,rfl,Nat.zero_le _,h,Nat.le_refl _,hn,hs,?_⟩⟩,fun k hk=> ?_⟩
 ·rw [←hs,←Array.length_toList,List.take_length]
 ·injection hk with hk;exact hk.symm
theorem aA.cells {e:TypeId}{size n c g:Nat}{xs:List Value}(h:aA w F e size (.slice (some ⟨g,0,none⟩) n c) n xs)(hp:0<n):g<w.heap.size∧F g∧∀k,k<xs.length→w.cell? ⟨g,k,none⟩=xs[k]? :=by
 obtain ⟨b,e1,h1,h2,h3⟩:=h.head hp;injection e1 with e1;injection e1 with e1;subst e1;exact ⟨h1,h2,h3⟩
structure Cx where
 bz:Nat
 cz:Nat
 bc:Nat
 cc:Nat
 bt:Nat
 ct:Nat
 bv:Nat
 cv:Nat
 br:Nat
 cr:Nat
 bo:Nat
 co:Nat
abbrev Cx.arr (c:Cx):Array Value:= #[.int .i64 2,.slice (some ⟨c.bz,0,none⟩) 2 c.cz,.slice (some ⟨c.bc,0,none⟩) 2 c.cc,.slice (some ⟨c.bt,0,none⟩) 1 c.ct,.slice (some ⟨c.bv,0,none⟩) 1 c.cv,.slice (some ⟨c.br,0,none⟩) 1 c.cr,.slice (some ⟨c.bo,0,none⟩) 1 c.co,.int .i64 1,.int .i64 20,.int .i64 0]
structure eB (w:World) (F:Nat→Prop) (c:Cx):Prop where
 z:aA w F TZn 1 (.slice (some ⟨c.bz,0,none⟩) 2 c.cz) 2 [.int .i64 0,.int .i64 1]
 k:aA w F TCl 2 (.slice (some ⟨c.bc,0,none⟩) 2 c.cc) 2 [.int .i64 0,.int .i64 9,.int .i64 1,.int .i64 9]
 t:aA w F TTn 7 (.slice (some ⟨c.bt,0,none⟩) 1 c.ct) 1 [.int .i64 5,.int .i64 2,.int .i64 0,.int .i64 0,.int .i64 3,.int .i64 0,.bool false]
 v:aA w F TVr 2 (.slice (some ⟨c.bv,0,none⟩) 1 c.cv) 1 [.int .i64 0,.int .i64 0]
 r:aA w F TIm 1 (.slice (some ⟨c.br,0,none⟩) 1 c.cr) 1 [.int .i64 0]
 o:aA w F TIm 1 (.slice (some ⟨c.bo,0,none⟩) 1 c.co) 1 [.int .i64 0]
theorem eB.frF {c:Cx}(h:eB w F c)(hf:Fr G w w')(hd:∀i,F i→¬G i):eB w' F c:=⟨h.z.frF hf hd,h.k.frF hf hd,h.t.frF hf hd,h.v.frF hf hd,h.r.frF hf hd,h.o.frF hf hd⟩
theorem eB.au {c:Cx}(h:eB w F c)(hf:Fr No w w'):eB w' F c:=h.frF hf fun _ _ h=>h
theorem eB.mono {c:Cx}(h:eB w F c)(hF:∀i,F i→G i):eB w G c:=⟨h.z.mono hF,h.k.mono hF,h.t.mono hF,h.v.mono hF,h.r.mono hF,h.o.mono hF⟩
def CxC (w:World)(c:Cx):Prop:=
 (w.cell? ⟨c.bz,0,none⟩=some (.int .i64 0)∧w.cell? ⟨c.bz,1,none⟩=some (.int .i64 1))∧
 (w.cell? ⟨c.bc,0,none⟩=some (.int .i64 0)∧w.cell? ⟨c.bc,1,none⟩=some (.int .i64 9)∧w.cell? ⟨c.bc,2,none⟩=some (.int .i64 1)∧w.cell? ⟨c.bc,3,none⟩=some (.int .i64 9))∧
 (w.cell? ⟨c.bt,0,none⟩=some (.int .i64 5)∧w.cell? ⟨c.bt,1,none⟩=some (.int .i64 2)∧w.cell? ⟨c.bt,2,none⟩=some (.int .i64 0)∧w.cell? ⟨c.bt,3,none⟩=some (.int .i64 0)∧w.cell? ⟨c.bt,4,none⟩=some (.int .i64 3)∧w.cell? ⟨c.bt,5,none⟩=some (.int .i64 0)∧w.cell? ⟨c.bt,6,none⟩=some (.bool false))∧
 (w.cell? ⟨c.bv,0,none⟩=some (.int .i64 0)∧w.cell? ⟨c.bv,1,none⟩=some (.int .i64 0))∧w.cell? ⟨c.br,0,none⟩=some (.int .i64 0)∧w.cell? ⟨c.bo,0,none⟩=some (.int .i64 0)
theorem eB.cells {c:Cx}(h:eB w F c):CxC w c:=by
 obtain ⟨_,_,z⟩:=h.z.cells dcd;obtain ⟨_,_,k⟩:=h.k.cells dcd;obtain ⟨_,_,t⟩:=h.t.cells dcd;obtain ⟨_,_,v⟩:=h.v.cells dcd;obtain ⟨_,_,r⟩:=h.r.cells dcd;obtain ⟨_,_,o⟩:=h.o.cells dcd;exact ⟨⟨z 0 dcd,z 1 dcd⟩,⟨k 0 dcd,k 1 dcd,k 2 dcd,k 3 dcd⟩,⟨t 0 dcd,t 1 dcd,t 2 dcd,t 3 dcd,t 4 dcd,t 5 dcd,t 6 dcd⟩,⟨v 0 dcd,v 1 dcd⟩,r 0 dcd,o 0 dcd⟩
theorem eB.lts {c:Cx}(h:eB w F c):(c.bz<w.heap.size∧c.bc<w.heap.size∧c.bt<w.heap.size∧c.bv<w.heap.size∧c.br<w.heap.size∧c.bo<w.heap.size)∧(2≤c.cz∧c.cz≤maxLen)∧(2≤c.cc∧c.cc≤maxLen)∧(1≤c.ct∧c.ct≤maxLen)∧(1≤c.cv∧c.cv≤maxLen)∧(1≤c.cr∧c.cr≤maxLen)∧(1≤c.co∧c.co≤maxLen):=
 ⟨⟨(h.z.cells dcd).1,(h.k.cells dcd).1,(h.t.cells dcd).1,(h.v.cells dcd).1,(h.r.cells dcd).1,(h.o.cells dcd).1⟩,h.z.cap,h.k.cap,h.t.cap,h.v.cap,h.r.cap,h.o.cap⟩
theorem oQ {f:Func}(k:Nat){g:Nat}(ts:Array Value){c:Cx}{W:World}(hb:Blk W g TCf c.arr)(h2:ts[k]?.getD undef= .pointer (some ⟨g,0,none⟩))(hr:f.results= #[.cell k TCf]):(results f ts).run Tryz.prog W= .ok (.agg c.arr) W:=by
 have c0:=hb.cell 0;have c1:=hb.cell 1;have c2:=hb.cell 2;have c3:=hb.cell 3;have c4:=hb.cell 4;have c5:=hb.cell 5;have c6:=hb.cell 6;have c7:=hb.cell 7;have c8:=hb.cell 8;have c9:=hb.cell 9;simp only [List.getElem?_toArray,List.getElem?_cons_zero,List.getElem?_cons_succ] at c0 c1 c2 c3 c4 c5 c6 c7 c8 c9
 simp [results,hr,go_sem,h2,c0,c1,c2,c3,c4,c5,c6,c7,c8,c9]
set_option maxHeartbeats 2000000 in
theorem ah5 (w:World):Calls Tryz.prog 31 #[] w fun e w' =>∃c:Cx,e= .returned (.agg c.arr)∧eB w' (fun b=>w.heap.size≤b) c∧Fr No w w' :=by
 go_in
 go_wp2_with fail
 obtain ⟨w0,hw0⟩:∃W,W=w.alloc (.cells #[.int .i64 2,.slice (some ⟨w.heap.size+1,0,none⟩) 2 2,.slice (some ⟨w.heap.size+1+1,0,none⟩) 2 2,.slice (some ⟨w.heap.size+1+1+1,0,none⟩) 1 1,.slice (some ⟨w.heap.size+1+1+1+1,0,none⟩) 1 1,.slice (some ⟨w.heap.size+1+1+1+1+1,0,none⟩) 1 1,.slice (some ⟨w.heap.size+1+1+1+1+1+1,0,none⟩) 1 1,.int .i64 1,.int .i64 20,.int .i64 0] TCf):=⟨_,rfl⟩;have f0:Fr No w w0:=by rw [hw0];exact aj _ _
 have z0:w0.heap.size=w.heap.size+1:=by rw [hw0];simp
 have b0:Blk w0 (w.heap.size) TCf #[.int .i64 2,.slice (some ⟨w.heap.size+1,0,none⟩) 2 2,.slice (some ⟨w.heap.size+1+1,0,none⟩) 2 2,.slice (some ⟨w.heap.size+1+1+1,0,none⟩) 1 1,.slice (some ⟨w.heap.size+1+1+1+1,0,none⟩) 1 1,.slice (some ⟨w.heap.size+1+1+1+1+1,0,none⟩) 1 1,.slice (some ⟨w.heap.size+1+1+1+1+1+1,0,none⟩) 1 1,.int .i64 1,.int .i64 20,.int .i64 0]:=by rw [hw0];exact Blk.new _ _ _
 obtain ⟨w1,hw1⟩:∃W,W=w0.alloc (.cells #[.int .i64 0,.int .i64 1] TZn):=⟨_,rfl⟩;have f1:Fr No w0 w1:=by rw [hw1];exact aj _ _
 have z1:w1.heap.size=w.heap.size+1+1:=by rw [hw1];simp [z0]
 have b1:Blk w1 (w.heap.size+1) TZn #[.int .i64 0,.int .i64 1]:=by rw [hw1,←z0];exact Blk.new _ _ _
 obtain ⟨w2,hw2⟩:∃W,W=w1.alloc (.cells #[.int .i64 0,.int .i64 9,.int .i64 1,.int .i64 9] TCl):=⟨_,rfl⟩;have f2:Fr No w1 w2:=by rw [hw2];exact aj _ _
 have z2:w2.heap.size=w.heap.size+1+1+1:=by rw [hw2];simp [z1]
 have b2:Blk w2 (w.heap.size+1+1) TCl #[.int .i64 0,.int .i64 9,.int .i64 1,.int .i64 9]:=by rw [hw2,←z1];exact Blk.new _ _ _
 obtain ⟨w3,hw3⟩:∃W,W=w2.alloc (.cells #[.int .i64 5,.int .i64 2,.int .i64 0,.int .i64 0,.int .i64 3,.int .i64 0,.bool false] TTn):=⟨_,rfl⟩;have f3:Fr No w2 w3:=by rw [hw3];exact aj _ _
 have z3:w3.heap.size=w.heap.size+1+1+1+1:=by rw [hw3];simp [z2]
 have b3:Blk w3 (w.heap.size+1+1+1) TTn #[.int .i64 5,.int .i64 2,.int .i64 0,.int .i64 0,.int .i64 3,.int .i64 0,.bool false]:=by rw [hw3,←z2];exact Blk.new _ _ _
 obtain ⟨w4,hw4⟩:∃W,W=w3.alloc (.cells #[.int .i64 0,.int .i64 0] TVr):=⟨_,rfl⟩;have f4:Fr No w3 w4:=by rw [hw4];exact aj _ _
 have z4:w4.heap.size=w.heap.size+1+1+1+1+1:=by rw [hw4];simp [z3]
 have b4:Blk w4 (w.heap.size+1+1+1+1) TVr #[.int .i64 0,.int .i64 0]:=by rw [hw4,←z3];exact Blk.new _ _ _
 obtain ⟨w5,hw5⟩:∃W,W=w4.alloc (.cells #[.int .i64 0] TIm):=⟨_,rfl⟩;have f5:Fr No w4 w5:=by rw [hw5];exact aj _ _
 have z5:w5.heap.size=w.heap.size+1+1+1+1+1+1:=by rw [hw5];simp [z4]
 have b5:Blk w5 (w.heap.size+1+1+1+1+1) TIm #[.int .i64 0]:=by rw [hw5,←z4];exact Blk.new _ _ _
 obtain ⟨w6,hw6⟩:∃W,W=w5.alloc (.cells #[.int .i64 0] TIm):=⟨_,rfl⟩;have f6:Fr No w5 w6:=by rw [hw6];exact aj _ _
 have z6:w6.heap.size=w.heap.size+1+1+1+1+1+1+1:=by rw [hw6];simp [z5]
 have b6:Blk w6 (w.heap.size+1+1+1+1+1+1) TIm #[.int .i64 0]:=by rw [hw6,←z5];exact Blk.new _ _ _
 replace b0:=b0.fr (((((f1.ah f2).ah f3).ah f4).ah f5).ah f6) id;replace b1:=b1.fr ((((f2.ah f3).ah f4).ah f5).ah f6) id;replace b2:=b2.fr (((f3.ah f4).ah f5).ah f6) id;replace b3:=b3.fr ((f4.ah f5).ah f6) id;replace b4:=b4.fr (f5.ah f6) id;replace b5:=b5.fr f6 id;have hf:Fr No w w6:=(((((f0.ah f1).ah f2).ah f3).ah f4).ah f5).ah f6;rw [←hw0,←hw1,←hw2,←hw3,←hw4,←hw5,←hw6];clear hw0 hw1 hw2 hw3 hw4 hw5 hw6;refine bodyPost_ret (v:= .agg (Cx.arr ⟨w.heap.size+1,2,w.heap.size+1+1,2,w.heap.size+1+1+1,1,w.heap.size+1+1+1+1,1,w.heap.size+1+1+1+1+1,1,w.heap.size+1+1+1+1+1+1,1⟩)) (oQ 0 _ b0 rfl rfl) rfl ⟨_,rfl,⟨?_,?_,?_,?_,?_,?_⟩,hf⟩
 ·exact (gY b1 rfl dcd).mono fun b hb=>by subst hb;omega
 ·exact (gY b2 rfl dcd).mono fun b hb=>by subst hb;omega
 ·exact (gY b3 rfl dcd).mono fun b hb=>by subst hb;omega
 ·exact (gY b4 rfl dcd).mono fun b hb=>by subst hb;omega
 ·exact (gY b5 rfl dcd).mono fun b hb=>by subst hb;omega
 ·exact (gY b6 rfl dcd).mono fun b hb=>by subst hb;omega
end
section
set_option linter.unusedSimpArgs false
theorem dY {t:TypeId}{n s b:Nat}(h:(Tryz.prog.info? t).map (fun i=>(i.zero.map fun z=>z.cells.size,i.size,i.bytes))=some (some n,s,b)):∃i z,Tryz.prog.info? t=some i∧i.zero=some z∧z.cells.size=n∧i.size=s∧i.bytes=b:=by
 cases hi:Tryz.prog.info? t with
 |none=>rw [hi] at h;cases h
 |some i=>
  rw [hi] at h;simp only [Option.map_some,Option.some.injEq,Prod.mk.injEq] at h
  cases hz:i.zero with
  |none=>rw [hz] at h;simp at h
  |some z=>rw [hz] at h;simp only [Option.map_some,Option.some.injEq] at h;exact ⟨i,z,rfl,hz,h.1,h.2.1,h.2.2⟩
theorem xM:(Tryz.prog.info? 172).map (fun i=>(i.zero.map fun z=>z.cells.size,i.size,i.bytes))=some (some 1,1,8):=by kernel_rfl
theorem ady (w:World)(A:Option Addr)(n c:Nat)(xs:List Value)(hA:A=none→n=0)(hr:Rd w w.heap.size A xs)(hn:xs.length=n*1)(h1:∀u∈xs,u.oneCell' =true)(hl:n≤1000000):Calls Tryz.prog 139 #[.slice A n c] w (pJ w 172 1 n xs):=by
 obtain ⟨i1,z1,hi1,hz0,hz,hz1,hz2⟩:=dY xM;have hnil:∀(W:World) (a:Option Addr) (n c n' c' :Nat),(binOp .eql 96 (.slice a n c) (.slice none n' c')).run Tryz.prog W= .ok (.bool a.isNone) W:=fun W a n c n' c' =>Lib.run_eql_slice_nil W _ 172 a n c n' c' rfl
 rcases A with _|A
 ·obtain rfl:n=0:=hA rfl
  obtain rfl:xs=[]:=List.eq_nil_of_length_eq_zero (by simpa using hn);clear hA hr hn h1
  go_in
  go_wp2_with fail
  go_ret
  exact ⟨none,0,rfl,aA.nil _ _ _ _,Fr.refl _ _⟩
 ·have hown:aA (w.alloc (.cells #[] 172)) (fun i=>w.heap.size≤i) 172 1 (.slice (some ⟨w.heap.size,0,none⟩) 0 0) 0 []:=⟨World.ownsRow_made w #[] 0 (Nat.zero_le _) (Nat.zero_le _) rfl,fun g hg=>by simp [Value.ownBlock] at hg;omega⟩
  have hr2:=hr.au (aj w (.cells #[] 172)) (Nat.le_refl _);clear hA hr;obtain ⟨HR2,H1,HN,HOWN⟩:=fV hr2 h1 hn hown;clear hr2 h1 hn hown
  go_in
  go_wp2_with (at_builtin;refine aB _ rfl (.tmp 5) (.tmp 6) _ rfl 0 172 i1 z1 1 8 Tryz.underlying96 hi1 hz0 hz1 hz2 hz dcd (.slice (some ⟨w.heap.size,0,none⟩) 0 0) 0 [] rfl HOWN.out.1 w.heap.size (some A) n c xs rfl (fun h=>by cases h) HR2.out HN.out H1.out mxl oy (Nat.zero_le _) ?_)
  intro v1 w2 happ;obtain ⟨A4,c4,rfl,n4⟩:=ay happ.1;clear n4;obtain ⟨o1,f1⟩:=HOWN.out.appended happ
  go_wp2_with fail
  go_ret
  rw [Nat.zero_add] at o1 ⊢;exact ⟨A4,c4,rfl,o1.mono fun b hb=>(by rcases hb with hb|hb;exact hb;simp at hb;omega),(aj w _).aD f1 fun i hi=>hi⟩
theorem xP:(Tryz.prog.info? 174).map (fun i=>(i.zero.map fun z=>z.cells.size,i.size,i.bytes))=some (some 2,2,16):=by kernel_rfl
theorem adz (w:World)(A:Option Addr)(n c:Nat)(xs:List Value)(hA:A=none→n=0)(hr:Rd w w.heap.size A xs)(hn:xs.length=n*2)(h1:∀u∈xs,u.oneCell' =true)(hl:n≤1000000):Calls Tryz.prog 140 #[.slice A n c] w (pJ w 174 2 n xs):=by
 obtain ⟨i1,z1,hi1,hz0,hz,hz1,hz2⟩:=dY xP;have hnil:∀(W:World) (a:Option Addr) (n c n' c' :Nat),(binOp .eql 97 (.slice a n c) (.slice none n' c')).run Tryz.prog W= .ok (.bool a.isNone) W:=fun W a n c n' c' =>Lib.run_eql_slice_nil W _ 174 a n c n' c' rfl
 rcases A with _|A
 ·obtain rfl:n=0:=hA rfl
  obtain rfl:xs=[]:=List.eq_nil_of_length_eq_zero (by simpa using hn);clear hA hr hn h1
  go_in
  go_wp2_with fail
  go_ret
  exact ⟨none,0,rfl,aA.nil _ _ _ _,Fr.refl _ _⟩
 ·have hown:aA (w.alloc (.cells #[] 174)) (fun i=>w.heap.size≤i) 174 2 (.slice (some ⟨w.heap.size,0,none⟩) 0 0) 0 []:=⟨World.ownsRow_made w #[] 0 (Nat.zero_le _) (Nat.zero_le _) rfl,fun g hg=>by simp [Value.ownBlock] at hg;omega⟩
  have hr2:=hr.au (aj w (.cells #[] 174)) (Nat.le_refl _);clear hA hr;obtain ⟨HR2,H1,HN,HOWN⟩:=fV hr2 h1 hn hown;clear hr2 h1 hn hown
  go_in
  go_wp2_with (at_builtin;refine aB _ rfl (.tmp 5) (.tmp 6) _ rfl 0 174 i1 z1 2 16 Tryz.underlying97 hi1 hz0 hz1 hz2 hz dcd (.slice (some ⟨w.heap.size,0,none⟩) 0 0) 0 [] rfl HOWN.out.1 w.heap.size (some A) n c xs rfl (fun h=>by cases h) HR2.out HN.out H1.out mxl oy (Nat.zero_le _) ?_)
  intro v1 w2 happ;obtain ⟨A4,c4,rfl,n4⟩:=ay happ.1;clear n4;obtain ⟨o1,f1⟩:=HOWN.out.appended happ
  go_wp2_with fail
  go_ret
  rw [Nat.zero_add] at o1 ⊢;exact ⟨A4,c4,rfl,o1.mono fun b hb=>(by rcases hb with hb|hb;exact hb;simp at hb;omega),(aj w _).aD f1 fun i hi=>hi⟩
theorem qN:(Tryz.prog.info? 176).map (fun i=>(i.zero.map fun z=>z.cells.size,i.size,i.bytes))=some (some 7,7,56):=by kernel_rfl
theorem xQ (w:World)(A:Option Addr)(n c:Nat)(xs:List Value)(hA:A=none→n=0)(hr:Rd w w.heap.size A xs)(hn:xs.length=n*7)(h1:∀u∈xs,u.oneCell' =true)(hl:n≤1000000):Calls Tryz.prog 141 #[.slice A n c] w (pJ w 176 7 n xs):=by
 obtain ⟨i1,z1,hi1,hz0,hz,hz1,hz2⟩:=dY qN;have hnil:∀(W:World) (a:Option Addr) (n c n' c' :Nat),(binOp .eql 98 (.slice a n c) (.slice none n' c')).run Tryz.prog W= .ok (.bool a.isNone) W:=fun W a n c n' c' =>Lib.run_eql_slice_nil W _ 176 a n c n' c' rfl
 rcases A with _|A
 ·obtain rfl:n=0:=hA rfl
  obtain rfl:xs=[]:=List.eq_nil_of_length_eq_zero (by simpa using hn);clear hA hr hn h1
  go_in
  go_wp2_with fail
  go_ret
  exact ⟨none,0,rfl,aA.nil _ _ _ _,Fr.refl _ _⟩
 ·have hown:aA (w.alloc (.cells #[] 176)) (fun i=>w.heap.size≤i) 176 7 (.slice (some ⟨w.heap.size,0,none⟩) 0 0) 0 []:=⟨World.ownsRow_made w #[] 0 (Nat.zero_le _) (Nat.zero_le _) rfl,fun g hg=>by simp [Value.ownBlock] at hg;omega⟩
  have hr2:=hr.au (aj w (.cells #[] 176)) (Nat.le_refl _);clear hA hr;obtain ⟨HR2,H1,HN,HOWN⟩:=fV hr2 h1 hn hown;clear hr2 h1 hn hown
  go_in
  go_wp2_with (at_builtin;refine aB _ rfl (.tmp 5) (.tmp 6) _ rfl 0 176 i1 z1 7 56 Tryz.underlying98 hi1 hz0 hz1 hz2 hz dcd (.slice (some ⟨w.heap.size,0,none⟩) 0 0) 0 [] rfl HOWN.out.1 w.heap.size (some A) n c xs rfl (fun h=>by cases h) HR2.out HN.out H1.out mxl oy (Nat.zero_le _) ?_)
  intro v1 w2 happ;obtain ⟨A4,c4,rfl,n4⟩:=ay happ.1;clear n4;obtain ⟨o1,f1⟩:=HOWN.out.appended happ
  go_wp2_with fail
  go_ret
  rw [Nat.zero_add] at o1 ⊢;exact ⟨A4,c4,rfl,o1.mono fun b hb=>(by rcases hb with hb|hb;exact hb;simp at hb;omega),(aj w _).aD f1 fun i hi=>hi⟩
theorem pO:(Tryz.prog.info? 178).map (fun i=>(i.zero.map fun z=>z.cells.size,i.size,i.bytes))=some (some 2,2,16):=by kernel_rfl
theorem tQ (w:World)(A:Option Addr)(n c:Nat)(xs:List Value)(hA:A=none→n=0)(hr:Rd w w.heap.size A xs)(hn:xs.length=n*2)(h1:∀u∈xs,u.oneCell' =true)(hl:n≤1000000):Calls Tryz.prog 142 #[.slice A n c] w (pJ w 178 2 n xs):=by
 obtain ⟨i1,z1,hi1,hz0,hz,hz1,hz2⟩:=dY pO;have hnil:∀(W:World) (a:Option Addr) (n c n' c' :Nat),(binOp .eql 99 (.slice a n c) (.slice none n' c')).run Tryz.prog W= .ok (.bool a.isNone) W:=fun W a n c n' c' =>Lib.run_eql_slice_nil W _ 178 a n c n' c' rfl
 rcases A with _|A
 ·obtain rfl:n=0:=hA rfl
  obtain rfl:xs=[]:=List.eq_nil_of_length_eq_zero (by simpa using hn);clear hA hr hn h1
  go_in
  go_wp2_with fail
  go_ret
  exact ⟨none,0,rfl,aA.nil _ _ _ _,Fr.refl _ _⟩
 ·have hown:aA (w.alloc (.cells #[] 178)) (fun i=>w.heap.size≤i) 178 2 (.slice (some ⟨w.heap.size,0,none⟩) 0 0) 0 []:=⟨World.ownsRow_made w #[] 0 (Nat.zero_le _) (Nat.zero_le _) rfl,fun g hg=>by simp [Value.ownBlock] at hg;omega⟩
  have hr2:=hr.au (aj w (.cells #[] 178)) (Nat.le_refl _);clear hA hr;obtain ⟨HR2,H1,HN,HOWN⟩:=fV hr2 h1 hn hown;clear hr2 h1 hn hown
  go_in
  go_wp2_with (at_builtin;refine aB _ rfl (.tmp 5) (.tmp 6) _ rfl 0 178 i1 z1 2 16 Tryz.underlying99 hi1 hz0 hz1 hz2 hz dcd (.slice (some ⟨w.heap.size,0,none⟩) 0 0) 0 [] rfl HOWN.out.1 w.heap.size (some A) n c xs rfl (fun h=>by cases h) HR2.out HN.out H1.out mxl oy (Nat.zero_le _) ?_)
  intro v1 w2 happ;obtain ⟨A4,c4,rfl,n4⟩:=ay happ.1;clear n4;obtain ⟨o1,f1⟩:=HOWN.out.appended happ
  go_wp2_with fail
  go_ret
  rw [Nat.zero_add] at o1 ⊢;exact ⟨A4,c4,rfl,o1.mono fun b hb=>(by rcases hb with hb|hb;exact hb;simp at hb;omega),(aj w _).aD f1 fun i hi=>hi⟩
theorem zO:(Tryz.prog.info? 3).map (fun i=>(i.zero.map fun z=>z.cells.size,i.size,i.bytes))=some (some 1,1,8):=by kernel_rfl
theorem zQ (w:World)(A:Option Addr)(n c:Nat)(xs:List Value)(hA:A=none→n=0)(hr:Rd w w.heap.size A xs)(hn:xs.length=n*1)(h1:∀u∈xs,u.oneCell' =true)(hl:n≤1000000):Calls Tryz.prog 143 #[.slice A n c] w (pJ w 3 1 n xs):=by
 obtain ⟨i1,z1,hi1,hz0,hz,hz1,hz2⟩:=dY zO;have hnil:∀(W:World) (a:Option Addr) (n c n' c' :Nat),(binOp .eql 44 (.slice a n c) (.slice none n' c')).run Tryz.prog W= .ok (.bool a.isNone) W:=fun W a n c n' c' =>Lib.run_eql_slice_nil W _ 3 a n c n' c' rfl
 rcases A with _|A
 ·obtain rfl:n=0:=hA rfl
  obtain rfl:xs=[]:=List.eq_nil_of_length_eq_zero (by simpa using hn);clear hA hr hn h1
  go_in
  go_wp2_with fail
  go_ret
  exact ⟨none,0,rfl,aA.nil _ _ _ _,Fr.refl _ _⟩
 ·have hown:aA (w.alloc (.cells #[] 3)) (fun i=>w.heap.size≤i) 3 1 (.slice (some ⟨w.heap.size,0,none⟩) 0 0) 0 []:=⟨World.ownsRow_made w #[] 0 (Nat.zero_le _) (Nat.zero_le _) rfl,fun g hg=>by simp [Value.ownBlock] at hg;omega⟩
  have hr2:=hr.au (aj w (.cells #[] 3)) (Nat.le_refl _);clear hA hr;obtain ⟨HR2,H1,HN,HOWN⟩:=fV hr2 h1 hn hown;clear hr2 h1 hn hown
  go_in
  go_wp2_with (at_builtin;refine aB _ rfl (.tmp 5) (.tmp 6) _ rfl 0 3 i1 z1 1 8 Tryz.underlying44 hi1 hz0 hz1 hz2 hz dcd (.slice (some ⟨w.heap.size,0,none⟩) 0 0) 0 [] rfl HOWN.out.1 w.heap.size (some A) n c xs rfl (fun h=>by cases h) HR2.out HN.out H1.out mxl oy (Nat.zero_le _) ?_)
  intro v1 w2 happ;obtain ⟨A4,c4,rfl,n4⟩:=ay happ.1;clear n4;obtain ⟨o1,f1⟩:=HOWN.out.appended happ
  go_wp2_with fail
  go_ret
  rw [Nat.zero_add] at o1 ⊢;exact ⟨A4,c4,rfl,o1.mono fun b hb=>(by rcases hb with hb|hb;exact hb;simp at hb;omega),(aj w _).aD f1 fun i hi=>hi⟩
theorem qO:(Tryz.prog.info? 227).map (fun i=>(i.zero.map fun z=>z.cells.size,i.size,i.bytes))=some (some 12,12,88):=by kernel_rfl
theorem kG (w:World)(A:Option Addr)(n c:Nat)(xs:List Value)(hA:A=none→n=0)(hr:Rd w w.heap.size A xs)(hn:xs.length=n*12)(h1:∀u∈xs,u.oneCell' =true)(hl:n≤1000000):Calls Tryz.prog 100 #[.slice A n c] w (pJ w 227 12 n xs):=by
 obtain ⟨i1,z1,hi1,hz0,hz,hz1,hz2⟩:=dY qO;have hnil:∀(W:World) (a:Option Addr) (n c n' c' :Nat),(binOp .eql 166 (.slice a n c) (.slice none n' c')).run Tryz.prog W= .ok (.bool a.isNone) W:=fun W a n c n' c' =>Lib.run_eql_slice_nil W _ 227 a n c n' c' rfl
 rcases A with _|A
 ·obtain rfl:n=0:=hA rfl
  obtain rfl:xs=[]:=List.eq_nil_of_length_eq_zero (by simpa using hn);clear hA hr hn h1
  go_in
  go_wp2_with fail
  go_ret
  exact ⟨none,0,rfl,aA.nil _ _ _ _,Fr.refl _ _⟩
 ·have hown:aA (w.alloc (.cells #[] 227)) (fun i=>w.heap.size≤i) 227 12 (.slice (some ⟨w.heap.size,0,none⟩) 0 0) 0 []:=⟨World.ownsRow_made w #[] 0 (Nat.zero_le _) (Nat.zero_le _) rfl,fun g hg=>by simp [Value.ownBlock] at hg;omega⟩
  have hr2:=hr.au (aj w (.cells #[] 227)) (Nat.le_refl _);clear hA hr;obtain ⟨HR2,H1,HN,HOWN⟩:=fV hr2 h1 hn hown;clear hr2 h1 hn hown
  go_in
  go_wp2_with (at_builtin;refine aB _ rfl (.tmp 5) (.tmp 6) _ rfl 0 227 i1 z1 12 88 Tryz.underlying166 hi1 hz0 hz1 hz2 hz dcd (.slice (some ⟨w.heap.size,0,none⟩) 0 0) 0 [] rfl HOWN.out.1 w.heap.size (some A) n c xs rfl (fun h=>by cases h) HR2.out HN.out H1.out mxl oy (Nat.zero_le _) ?_)
  intro v1 w2 happ;obtain ⟨A4,c4,rfl,n4⟩:=ay happ.1;clear n4;obtain ⟨o1,f1⟩:=HOWN.out.appended happ
  go_wp2_with fail
  go_ret
  rw [Nat.zero_add] at o1 ⊢;exact ⟨A4,c4,rfl,o1.mono fun b hb=>(by rcases hb with hb|hb;exact hb;simp at hb;omega),(aj w _).aD f1 fun i hi=>hi⟩
theorem qP:(Tryz.prog.info? 230).map (fun i=>(i.zero.map fun z=>z.cells.size,i.size,i.bytes))=some (some 4,4,32):=by kernel_rfl
theorem kH (w:World)(A:Option Addr)(n c:Nat)(xs:List Value)(hA:A=none→n=0)(hr:Rd w w.heap.size A xs)(hn:xs.length=n*4)(h1:∀u∈xs,u.oneCell' =true)(hl:n≤1000000):Calls Tryz.prog 101 #[.slice A n c] w (pJ w 230 4 n xs):=by
 obtain ⟨i1,z1,hi1,hz0,hz,hz1,hz2⟩:=dY qP;have hnil:∀(W:World) (a:Option Addr) (n c n' c' :Nat),(binOp .eql 167 (.slice a n c) (.slice none n' c')).run Tryz.prog W= .ok (.bool a.isNone) W:=fun W a n c n' c' =>Lib.run_eql_slice_nil W _ 230 a n c n' c' rfl
 rcases A with _|A
 ·obtain rfl:n=0:=hA rfl
  obtain rfl:xs=[]:=List.eq_nil_of_length_eq_zero (by simpa using hn);clear hA hr hn h1
  go_in
  go_wp2_with fail
  go_ret
  exact ⟨none,0,rfl,aA.nil _ _ _ _,Fr.refl _ _⟩
 ·have hown:aA (w.alloc (.cells #[] 230)) (fun i=>w.heap.size≤i) 230 4 (.slice (some ⟨w.heap.size,0,none⟩) 0 0) 0 []:=⟨World.ownsRow_made w #[] 0 (Nat.zero_le _) (Nat.zero_le _) rfl,fun g hg=>by simp [Value.ownBlock] at hg;omega⟩
  have hr2:=hr.au (aj w (.cells #[] 230)) (Nat.le_refl _);clear hA hr;obtain ⟨HR2,H1,HN,HOWN⟩:=fV hr2 h1 hn hown;clear hr2 h1 hn hown
  go_in
  go_wp2_with (at_builtin;refine aB _ rfl (.tmp 5) (.tmp 6) _ rfl 0 230 i1 z1 4 32 Tryz.underlying167 hi1 hz0 hz1 hz2 hz dcd (.slice (some ⟨w.heap.size,0,none⟩) 0 0) 0 [] rfl HOWN.out.1 w.heap.size (some A) n c xs rfl (fun h=>by cases h) HR2.out HN.out H1.out mxl oy (Nat.zero_le _) ?_)
  intro v1 w2 happ;obtain ⟨A4,c4,rfl,n4⟩:=ay happ.1;clear n4;obtain ⟨o1,f1⟩:=HOWN.out.appended happ
  go_wp2_with fail
  go_ret
  rw [Nat.zero_add] at o1 ⊢;exact ⟨A4,c4,rfl,o1.mono fun b hb=>(by rcases hb with hb|hb;exact hb;simp at hb;omega),(aj w _).aD f1 fun i hi=>hi⟩
theorem tL:(Tryz.prog.info? 105).map (fun i=>(i.zero.map fun z=>z.cells.size,i.size,i.bytes))=some (some 9,9,72):=by kernel_rfl
theorem zR (w:World)(A:Option Addr)(n c:Nat)(xs:List Value)(hA:A=none→n=0)(hr:Rd w w.heap.size A xs)(hn:xs.length=n*9)(h1:∀u∈xs,u.oneCell' =true)(hl:n≤1000000):Calls Tryz.prog 111 #[.slice A n c] w (pJ w 105 9 n xs):=by
 obtain ⟨i1,z1,hi1,hz0,hz,hz1,hz2⟩:=dY tL;have hnil:∀(W:World) (a:Option Addr) (n c n' c' :Nat),(binOp .eql 117 (.slice a n c) (.slice none n' c')).run Tryz.prog W= .ok (.bool a.isNone) W:=fun W a n c n' c' =>Lib.run_eql_slice_nil W _ 105 a n c n' c' rfl
 rcases A with _|A
 ·obtain rfl:n=0:=hA rfl
  obtain rfl:xs=[]:=List.eq_nil_of_length_eq_zero (by simpa using hn);clear hA hr hn h1
  go_in
  go_wp2_with fail
  go_ret
  exact ⟨none,0,rfl,aA.nil _ _ _ _,Fr.refl _ _⟩
 ·have hown:aA (w.alloc (.cells #[] 105)) (fun i=>w.heap.size≤i) 105 9 (.slice (some ⟨w.heap.size,0,none⟩) 0 0) 0 []:=⟨World.ownsRow_made w #[] 0 (Nat.zero_le _) (Nat.zero_le _) rfl,fun g hg=>by simp [Value.ownBlock] at hg;omega⟩
  have hr2:=hr.au (aj w (.cells #[] 105)) (Nat.le_refl _);clear hA hr;obtain ⟨HR2,H1,HN,HOWN⟩:=fV hr2 h1 hn hown;clear hr2 h1 hn hown
  go_in
  go_wp2_with (at_builtin;refine aB _ rfl (.tmp 5) (.tmp 6) _ rfl 0 105 i1 z1 9 72 Tryz.underlying117 hi1 hz0 hz1 hz2 hz dcd (.slice (some ⟨w.heap.size,0,none⟩) 0 0) 0 [] rfl HOWN.out.1 w.heap.size (some A) n c xs rfl (fun h=>by cases h) HR2.out HN.out H1.out mxl oy (Nat.zero_le _) ?_)
  intro v1 w2 happ;obtain ⟨A4,c4,rfl,n4⟩:=ay happ.1;clear n4;obtain ⟨o1,f1⟩:=HOWN.out.appended happ
  go_wp2_with fail
  go_ret
  rw [Nat.zero_add] at o1 ⊢;exact ⟨A4,c4,rfl,o1.mono fun b hb=>(by rcases hb with hb|hb;exact hb;simp at hb;omega),(aj w _).aD f1 fun i hi=>hi⟩
end
section
set_option linter.unusedSimpArgs false
variable {w w' :World}{F G:Nat→Prop}
def BxC (w:World)(g:Nat)(c:Cx):Prop:=
 (w.cell? ⟨g,0,none⟩=some (.int .i64 2)∧w.cell? ⟨g,1,none⟩=some (.slice (some ⟨c.bz,0,none⟩) 2 c.cz)∧w.cell? ⟨g,2,none⟩=some (.slice (some ⟨c.bc,0,none⟩) 2 c.cc)∧w.cell? ⟨g,3,none⟩=some (.slice (some ⟨c.bt,0,none⟩) 1 c.ct)∧w.cell? ⟨g,4,none⟩=some (.slice (some ⟨c.bv,0,none⟩) 1 c.cv)∧w.cell? ⟨g,5,none⟩=some (.slice (some ⟨c.br,0,none⟩) 1 c.cr)∧w.cell? ⟨g,6,none⟩=some (.slice (some ⟨c.bo,0,none⟩) 1 c.co)∧w.cell? ⟨g,7,none⟩=some (.int .i64 1)∧w.cell? ⟨g,8,none⟩=some (.int .i64 20)∧w.cell? ⟨g,9,none⟩=some (.int .i64 0))∧CxC w c
theorem xD {g:Nat}{c:Cx}(hb:Blk w g TCf c.arr)(hc:CxC w c):BxC w g c:=⟨⟨hb.cell 0,hb.cell 1,hb.cell 2,hb.cell 3,hb.cell 4,hb.cell 5,hb.cell 6,hb.cell 7,hb.cell 8,hb.cell 9⟩,hc⟩
theorem aX (n lo hi:Int)(w:World):Calls Tryz.prog 230 #[.int .i64 n,.int .i64 lo,.int .i64 hi] w fun e w' =>e= .returned (.bool (decide (lo≤n) && decide (n≤hi)))∧w=w' :=by
 go_in
 cases d1:decide (lo≤n)<;>cases d2:decide (n≤hi)
 all_goals go_wp2_with fail
 all_goals go_ret
 all_goals exact ⟨rfl,rfl⟩
theorem mM (n lo hi:Int)(w:World):Calls Tryz.prog 176 #[.int .i64 n,.int .i64 lo,.int .i64 hi] w fun e w' =>e= .returned (.bool (decide (lo≤n) && decide (n≤hi)))∧w=w' :=by
 go_in
 cases d1:decide (lo≤n)<;>cases d2:decide (n≤hi)
 all_goals go_wp2_with fail
 all_goals go_ret
 all_goals exact ⟨rfl,rfl⟩
theorem qM (c:Cx)(w:World):Calls Tryz.prog 173 #[.agg c.arr] w fun e w' =>e= .returned (.bool true)∧Fr No w w' :=by
 go_in
 go_wp2_with (go_at_call 230;refine (aX _ _ _ _).mono ?_;rintro e w' ⟨rfl,rfl⟩)
 go_ret
 exact ⟨rfl,aj _ _⟩
theorem tJ {c:Cx}(h:eB w F c):Calls Tryz.prog 174 #[.agg c.arr] w fun e w' =>e= .returned (.bool true)∧Fr No w w' :=by
 have hlt:=h.lts;have hall:=fun V (hV:Fr No w V)=>(h.au hV).cells;clear h;obtain ⟨bz,cz,bc,cc,bt,ct,bv,cv,br,cr,bo,co⟩:=c;simp only [Cx.arr] at*
 go_in
 go_upto_region 1 with fail
 obtain ⟨g,hg⟩:∃g,g=w.heap.size:=⟨_,rfl⟩;obtain ⟨w1,hw1⟩:∃w1,w1=w.alloc (.cells #[.int .i64 2,.slice (some ⟨bz,0,none⟩) 2 cz,.slice (some ⟨bc,0,none⟩) 2 cc,.slice (some ⟨bt,0,none⟩) 1 ct,.slice (some ⟨bv,0,none⟩) 1 cv,.slice (some ⟨br,0,none⟩) 1 cr,.slice (some ⟨bo,0,none⟩) 1 co,.int .i64 1,.int .i64 20,.int .i64 0] TCf):=⟨_,rfl⟩;have hb:Blk w1 g TCf (Cx.arr ⟨bz,cz,bc,cc,bt,ct,bv,cv,br,cr,bo,co⟩):=by rw [hw1,hg];exact Blk.new _ _ _
 have f1:Fr No w w1:=by rw [hw1];exact aj _ _
 rw [←hw1,←hg];have hal:∀V,Fr No w1 V→BxC V g ⟨bz,cz,bc,cc,bt,ct,bv,cv,br,cr,bo,co⟩:=fun V hV=>xD (hb.fr hV id) (hall V (f1.ah hV));have hgl:g<w1.heap.size:=hb.lt;have hs1:=f1.size;obtain ⟨HAL,F1⟩:=aN hal f1;clear hal hb f1 hall hw1 hg;obtain ⟨⟨e0,e1,e2,e3,e4,e5,e6,e7,e8,e9⟩,⟨z0,z1⟩,⟨k0,k1,k2,k3⟩,⟨t0,t1,t2,t3,t4,t5,t6⟩,⟨v0,v1⟩,r0,o0⟩:=HAL.out _ (Fr.refl _ _)
 go_wp2_with fail
 clear e0 e1 e2 e3 e4 e5 e6 e7 e8 e9 z0 z1 k0 k1 k2 k3 t0 t1 t2 t3 t4 t5 t6 v0 v1 r0 o0
 go_loopw [15] (fun i wr=>∃k:Nat,k≤2∧i= .int .i64 k∧Fr No w1 wr) (fun i _=>2-(intOf i).toNat)
 case atStart=>exact ⟨0,Nat.zero_le _,rfl,Fr.refl _ _⟩
 obtain ⟨k,hk,rfl,hf⟩:=hrel;have HF:=O hf;obtain ⟨⟨e0,e1,e2,e3,e4,e5,e6,e7,e8,e9⟩,⟨z0,z1⟩,⟨k0,k1,k2,k3⟩,⟨t0,t1,t2,t3,t4,t5,t6⟩,⟨v0,v1⟩,r0,o0⟩:=HAL.out wr hf;have hgr:g<wr.heap.size:=nll hgl hf.size;have hs1:=hf.size
 rcases Nat.lt_or_ge k 2 with hlt|hge
 ·obtain rfl|rfl:k=0∨k=1:=by omega
  all_goals go_wp2_with (go_at_call 230;refine (aX _ _ _ _).mono ?_;rintro e w' ⟨rfl,rfl⟩)
  all_goals go_roundw
  case rel=>exact ⟨1,by decide,rfl,(by repeat (with_reducible first|assumption|exact Fr.refl _ _|refine Fr.alloc ?_ _|refine Fr.drew ?_|refine Fr.drewN ?_ _|refine Fr.setCell ?_ (.inr (by assumption)) _))⟩
  case measure=>simp [intOf]
  case rel=>exact ⟨2,by decide,rfl,(by repeat (with_reducible first|assumption|exact Fr.refl _ _|refine Fr.alloc ?_ _|refine Fr.drew ?_|refine Fr.drewN ?_ _|refine Fr.setCell ?_ (.inr (by assumption)) _))⟩
  case measure=>simp [intOf]
 clear hf;obtain rfl:k=2:=by omega
 go_wp2_with (go_at_call 230;refine (aX _ _ _ _).mono ?_;rintro e w' ⟨rfl,rfl⟩)
 clear e0 e1 e2 e3 e4 e5 e6 e7 e8 e9 z0 z1 k0 k1 k2 k3 t0 t1 t2 t3 t4 t5 t6 v0 v1 r0 o0
 go_loopw [34] (fun i wr=>∃k:Nat,k≤2∧i= .int .i64 k∧Fr No w1 wr) (fun i _=>2-(intOf i).toNat)
 case atStart=>exact ⟨0,Nat.zero_le _,rfl,HF.out⟩
 obtain ⟨k,hk,rfl,hf⟩:=hrel;clear HF;have HF:=O hf;obtain ⟨⟨e0,e1,e2,e3,e4,e5,e6,e7,e8,e9⟩,⟨z0,z1⟩,⟨k0,k1,k2,k3⟩,⟨t0,t1,t2,t3,t4,t5,t6⟩,⟨v0,v1⟩,r0,o0⟩:=HAL.out wr hf;have hgr:g<wr.heap.size:=nll hgl hf.size;have hs1:=hf.size
 rcases Nat.lt_or_ge k 2 with hlt|hge
 ·obtain rfl|rfl:k=0∨k=1:=by omega
  all_goals go_wp2_with (go_at_call 230;refine (aX _ _ _ _).mono ?_;rintro e w' ⟨rfl,rfl⟩)
  all_goals go_roundw
  case rel=>exact ⟨1,by decide,rfl,(by repeat (with_reducible first|assumption|exact Fr.refl _ _|refine Fr.alloc ?_ _|refine Fr.drew ?_|refine Fr.drewN ?_ _|refine Fr.setCell ?_ (.inr (by assumption)) _))⟩
  case measure=>simp [intOf]
  case rel=>exact ⟨2,by decide,rfl,(by repeat (with_reducible first|assumption|exact Fr.refl _ _|refine Fr.alloc ?_ _|refine Fr.drew ?_|refine Fr.drewN ?_ _|refine Fr.setCell ?_ (.inr (by assumption)) _))⟩
  case measure=>simp [intOf]
 clear hf;obtain rfl:k=2:=by omega
 go_wp2_with (go_at_call 230;refine (aX _ _ _ _).mono ?_;rintro e w' ⟨rfl,rfl⟩)
 clear e0 e1 e2 e3 e4 e5 e6 e7 e8 e9 z0 z1 k0 k1 k2 k3 t0 t1 t2 t3 t4 t5 t6 v0 v1 r0 o0
 go_loopw [47] (fun i wr=>∃k:Nat,k≤1∧i= .int .i64 k∧Fr No w1 wr) (fun i _=>1-(intOf i).toNat)
 case atStart=>exact ⟨0,Nat.zero_le _,rfl,HF.out⟩
 obtain ⟨k,hk,rfl,hf⟩:=hrel;clear HF;have HF:=O hf;obtain ⟨⟨e0,e1,e2,e3,e4,e5,e6,e7,e8,e9⟩,⟨z0,z1⟩,⟨k0,k1,k2,k3⟩,⟨t0,t1,t2,t3,t4,t5,t6⟩,⟨v0,v1⟩,r0,o0⟩:=HAL.out wr hf;have hgr:g<wr.heap.size:=nll hgl hf.size;have hs1:=hf.size
 rcases Nat.lt_or_ge k 1 with hlt|hge
 ·obtain rfl:k=0:=by omega
  all_goals go_wp2_with (go_at_call 230;refine (aX _ _ _ _).mono ?_;rintro e w' ⟨rfl,rfl⟩)
  all_goals go_roundw
  case rel=>exact ⟨1,by decide,rfl,(by repeat (with_reducible first|assumption|exact Fr.refl _ _|refine Fr.alloc ?_ _|refine Fr.drew ?_|refine Fr.drewN ?_ _|refine Fr.setCell ?_ (.inr (by assumption)) _))⟩
  case measure=>simp [intOf]
 clear hf;obtain rfl:k=1:=by omega
 go_wp2_with (go_at_call 230;refine (aX _ _ _ _).mono ?_;rintro e w' ⟨rfl,rfl⟩)
 clear e0 e1 e2 e3 e4 e5 e6 e7 e8 e9 z0 z1 k0 k1 k2 k3 t0 t1 t2 t3 t4 t5 t6 v0 v1 r0 o0
 go_loopw [59] (fun i wr=>∃k:Nat,k≤1∧i= .int .i64 k∧Fr No w1 wr) (fun i _=>1-(intOf i).toNat)
 case atStart=>exact ⟨0,Nat.zero_le _,rfl,HF.out⟩
 obtain ⟨k,hk,rfl,hf⟩:=hrel;clear HF;have HF:=O hf;obtain ⟨⟨e0,e1,e2,e3,e4,e5,e6,e7,e8,e9⟩,⟨z0,z1⟩,⟨k0,k1,k2,k3⟩,⟨t0,t1,t2,t3,t4,t5,t6⟩,⟨v0,v1⟩,r0,o0⟩:=HAL.out wr hf;have hgr:g<wr.heap.size:=nll hgl hf.size;have hs1:=hf.size
 rcases Nat.lt_or_ge k 1 with hlt|hge
 ·obtain rfl:k=0:=by omega
  all_goals go_wp2_with (go_at_call 230;refine (aX _ _ _ _).mono ?_;rintro e w' ⟨rfl,rfl⟩)
  all_goals go_roundw
  case rel=>exact ⟨1,by decide,rfl,(by repeat (with_reducible first|assumption|exact Fr.refl _ _|refine Fr.alloc ?_ _|refine Fr.drew ?_|refine Fr.drewN ?_ _|refine Fr.setCell ?_ (.inr (by assumption)) _))⟩
  case measure=>simp [intOf]
 clear hf;obtain rfl:k=1:=by omega
 go_wp2_with fail
 go_ret
 exact ⟨rfl,F1.out.ah HF.out⟩
theorem xR {c:Cx}(h:eB w F c):Calls Tryz.prog 175 #[.agg c.arr] w fun e w' =>e= .returned (.bool true)∧Fr No w w' :=by
 have hlt:=h.lts;have hall:=fun V (hV:Fr No w V)=>(h.au hV).cells;clear h;obtain ⟨bz,cz,bc,cc,bt,ct,bv,cv,br,cr,bo,co⟩:=c;simp only [Cx.arr] at*
 go_in
 go_upto_region 1 with fail
 obtain ⟨g,hg⟩:∃g,g=w.heap.size:=⟨_,rfl⟩;obtain ⟨w1,hw1⟩:∃w1,w1=w.alloc (.cells #[.int .i64 2,.slice (some ⟨bz,0,none⟩) 2 cz,.slice (some ⟨bc,0,none⟩) 2 cc,.slice (some ⟨bt,0,none⟩) 1 ct,.slice (some ⟨bv,0,none⟩) 1 cv,.slice (some ⟨br,0,none⟩) 1 cr,.slice (some ⟨bo,0,none⟩) 1 co,.int .i64 1,.int .i64 20,.int .i64 0] TCf):=⟨_,rfl⟩;have hb:Blk w1 g TCf (Cx.arr ⟨bz,cz,bc,cc,bt,ct,bv,cv,br,cr,bo,co⟩):=by rw [hw1,hg];exact Blk.new _ _ _
 have f1:Fr No w w1:=by rw [hw1];exact aj _ _
 rw [←hw1,←hg];have hal:∀V,Fr No w1 V→BxC V g ⟨bz,cz,bc,cc,bt,ct,bv,cv,br,cr,bo,co⟩:=fun V hV=>xD (hb.fr hV id) (hall V (f1.ah hV));have hgl:g<w1.heap.size:=hb.lt;have hs1:=f1.size;obtain ⟨HAL,F1⟩:=aN hal f1;clear hal hb f1 hall hw1 hg;obtain ⟨⟨e0,e1,e2,e3,e4,e5,e6,e7,e8,e9⟩,⟨z0,z1⟩,⟨k0,k1,k2,k3⟩,⟨t0,t1,t2,t3,t4,t5,t6⟩,⟨v0,v1⟩,r0,o0⟩:=HAL.out _ (Fr.refl _ _)
 go_wp2_with fail
 clear e0 e1 e2 e3 e4 e5 e6 e7 e8 e9 z0 z1 k0 k1 k2 k3 t0 t1 t2 t3 t4 t5 t6 v0 v1 r0 o0
 go_loopw [10] (fun i wr=>∃k:Nat,k≤2∧i= .int .i64 k∧Fr No w1 wr) (fun i _=>2-(intOf i).toNat)
 case atStart=>exact ⟨0,Nat.zero_le _,rfl,Fr.refl _ _⟩
 obtain ⟨k,hk,rfl,hf⟩:=hrel;have HF:=O hf;obtain ⟨⟨e0,e1,e2,e3,e4,e5,e6,e7,e8,e9⟩,⟨z0,z1⟩,⟨k0,k1,k2,k3⟩,⟨t0,t1,t2,t3,t4,t5,t6⟩,⟨v0,v1⟩,r0,o0⟩:=HAL.out wr hf;have hgr:g<wr.heap.size:=nll hgl hf.size;have hs1:=hf.size
 rcases Nat.lt_or_ge k 2 with hlt|hge
 ·obtain rfl|rfl:k=0∨k=1:=by omega
  all_goals go_wp2_with (go_at_call 230;refine (aX _ _ _ _).mono ?_;rintro e w' ⟨rfl,rfl⟩)
  all_goals go_roundw
  case rel=>exact ⟨1,by decide,rfl,(by repeat (with_reducible first|assumption|exact Fr.refl _ _|refine Fr.alloc ?_ _|refine Fr.drew ?_|refine Fr.drewN ?_ _|refine Fr.setCell ?_ (.inr (by assumption)) _))⟩
  case measure=>simp [intOf]
  case rel=>exact ⟨2,by decide,rfl,(by repeat (with_reducible first|assumption|exact Fr.refl _ _|refine Fr.alloc ?_ _|refine Fr.drew ?_|refine Fr.drewN ?_ _|refine Fr.setCell ?_ (.inr (by assumption)) _))⟩
  case measure=>simp [intOf]
 clear hf;obtain rfl:k=2:=by omega
 go_wp2_with (go_at_call 230;refine (aX _ _ _ _).mono ?_;rintro e w' ⟨rfl,rfl⟩)
 clear e0 e1 e2 e3 e4 e5 e6 e7 e8 e9 z0 z1 k0 k1 k2 k3 t0 t1 t2 t3 t4 t5 t6 v0 v1 r0 o0
 go_loopw [22] (fun i wr=>∃k:Nat,k≤1∧i= .int .i64 k∧Fr No w1 wr) (fun i _=>1-(intOf i).toNat)
 case atStart=>exact ⟨0,Nat.zero_le _,rfl,HF.out⟩
 obtain ⟨k,hk,rfl,hf⟩:=hrel;clear HF;have HF:=O hf;obtain ⟨⟨e0,e1,e2,e3,e4,e5,e6,e7,e8,e9⟩,⟨z0,z1⟩,⟨k0,k1,k2,k3⟩,⟨t0,t1,t2,t3,t4,t5,t6⟩,⟨v0,v1⟩,r0,o0⟩:=HAL.out wr hf;have hgr:g<wr.heap.size:=nll hgl hf.size;have hs1:=hf.size
 rcases Nat.lt_or_ge k 1 with hlt|hge
 ·obtain rfl:k=0:=by omega
  all_goals go_wp2_with (go_at_call 230;refine (aX _ _ _ _).mono ?_;rintro e w' ⟨rfl,rfl⟩)
  all_goals go_roundw
  case rel=>exact ⟨1,by decide,rfl,(by repeat (with_reducible first|assumption|exact Fr.refl _ _|refine Fr.alloc ?_ _|refine Fr.drew ?_|refine Fr.drewN ?_ _|refine Fr.setCell ?_ (.inr (by assumption)) _))⟩
  case measure=>simp [intOf]
 clear hf;obtain rfl:k=1:=by omega
 go_wp2_with (go_at_call 230;refine (aX _ _ _ _).mono ?_;rintro e w' ⟨rfl,rfl⟩)
 go_ret
 exact ⟨rfl,F1.out.ah HF.out⟩
end
end Go.Proofs.YtodkhcbjpodgeaaGreat
