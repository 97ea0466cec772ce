/-
  A copy of a tenant in memory: where its parts lie.
-/
import Derived.Test.YtodkhcbjpodgeaaGreatG01
import Derived.Test.YtodkhcbjpodgeaaGreatG07
import Derived.Maps.OwnSet
namespace Go.Proofs.YtodkhcbjpodgeaaGreat
open Go.ChangeShapes Go.WideShapes Go.ChangeAt Go.RowKit
set_option linter.unusedVariables false
set_option maxRecDepth 100000
set_option maxHeartbeats 4000000
section
abbrev TCh:TypeId:=54
abbrev TIt:TypeId:=132
abbrev TLe:TypeId:=134
abbrev nK:TypeId:=31
abbrev auz:TypeId:=196
abbrev arj:TypeId:=200
abbrev auy:TypeId:=219
abbrev ao5:TypeId:=122
abbrev nW:TypeId:=93
abbrev TS_:TypeId:=9
def Ch.cells (x:Ch):List Value:=[.int .i64 x.ep,.int .i64 x.sq,.int .i64 x.kd,.int .i64 x.cl,.int .i64 x.nm,.int .i64 x.it,.string x.ky,.string x.vl]
def It.cells (x:It):List Value:=[.int .i64 x.nm,.string x.vl]
def Le.cells (x:Le):List Value:=[.int .i64 x.it,.int .i64 x.cl,.int .i64 x.ep,.int .i64 x.un]
def Wn.cells (x:Wn):List Value:=[.int .i64 x.cl,.int .i64 x.ep,.int .i64 x.vs,.int .i64 x.fm,.int .i64 x.un]
def Ss.cells (x:Ss):List Value:=[.int .i64 x.nm,.int .i64 x.rp.er,.int .i64 x.rp.sq,.int .i64 x.rp.it,.string x.rp.vl]
def chV (l:List Ch):List Value:=l.flatMap Ch.cells
def itV (l:List It):List Value:=l.flatMap It.cells
def leV (l:List Le):List Value:=l.flatMap Le.cells
def wnV (l:List Wn):List Value:=l.flatMap Wn.cells
def ssV (l:List Ss):List Value:=l.flatMap Ss.cells
theorem kr (x:Ch)(l:List Ch):chV (x :: l)=x.cells++chV l:=by simp [chV]
theorem qz (l:List Ch):(chV l).length=l.length*8:=by
 induction l with
 |nil=>rfl
 |cons x l ih=>rw [kr,List.length_append,List.length_cons,ih];simp [Ch.cells];omega
theorem acu (l:List Ch):∀u∈chV l,u.oneCell' =true:=by
 intro u hu;simp only [chV,List.mem_flatMap] at hu;obtain ⟨x,_,hx⟩:=hu;simp only [Ch.cells,List.mem_cons,List.not_mem_nil,or_false] at hx
 rcases hx with rfl|rfl|rfl|rfl|rfl|rfl|rfl|rfl
 all_goals rfl
theorem ajz:∀(l:List Ch) (i j:Nat) (x:Ch),l[i]? =some x→j<8→(chV l)[i*8+j]? =x.cells[j]? :=by
 intro l
 induction l with
 |nil=>intro i j x h;simp at h
 |cons y l ih=>
  intro i j x h hj;rw [kr];have hl:y.cells.length=8:=rfl
  cases i with
  |zero=>
   simp at h
   subst h;rw [Nat.zero_mul,Nat.zero_add,List.getElem?_append_left oy]
  |succ i=>
   rw [List.getElem?_append_right oy,hl,show (i+1)*8+j-8=i*8+j from by omega];exact ih i j x (by simpa using h) hj
theorem xB (l:List Ch)(i:Nat):(chV l).take (i*8)=chV (l.take i):=by
 induction l generalizing i with
 |nil=>simp [chV]
 |cons y l ih=>
  cases i with
  |zero=>simp [chV]
  |succ i=>
   have hl:y.cells.length=8:=rfl;rw [kr,List.take_succ_cons,kr,List.take_append,hl,List.take_of_length_le oy,show (i+1)*8-8=i*8 from by omega,ih i]
theorem xC (l:List Ch)(i:Nat):(chV l).drop (i*8)=chV (l.drop i):=by
 induction l generalizing i with
 |nil=>simp [chV]
 |cons y l ih=>
  cases i with
  |zero=>simp [chV]
  |succ i=>
   have hl:y.cells.length=8:=rfl;rw [kr,List.drop_succ_cons,List.drop_append,hl,List.drop_of_length_le oy,List.nil_append,show (i+1)*8-8=i*8 from by omega,ih i]
theorem j6 (x:It)(l:List It):itV (x :: l)=x.cells++itV l:=by simp [itV]
theorem uM (l:List It):(itV l).length=l.length*2:=by
 induction l with
 |nil=>rfl
 |cons x l ih=>rw [j6,List.length_append,List.length_cons,ih];simp [It.cells];omega
theorem uL (l:List It):∀u∈itV l,u.oneCell' =true:=by
 intro u hu;simp only [itV,List.mem_flatMap] at hu;obtain ⟨x,_,hx⟩:=hu;simp only [It.cells,List.mem_cons,List.not_mem_nil,or_false] at hx
 rcases hx with rfl|rfl
 all_goals rfl
theorem ajh:∀(l:List It) (i j:Nat) (x:It),l[i]? =some x→j<2→(itV l)[i*2+j]? =x.cells[j]? :=by
 intro l
 induction l with
 |nil=>intro i j x h;simp at h
 |cons y l ih=>
  intro i j x h hj;rw [j6];have hl:y.cells.length=2:=rfl
  cases i with
  |zero=>
   simp at h
   subst h;rw [Nat.zero_mul,Nat.zero_add,List.getElem?_append_left oy]
  |succ i=>
   rw [List.getElem?_append_right oy,hl,show (i+1)*2+j-2=i*2+j from by omega];exact ih i j x (by simpa using h) hj
theorem aff (l:List It)(i:Nat):(itV l).take (i*2)=itV (l.take i):=by
 induction l generalizing i with
 |nil=>simp [itV]
 |cons y l ih=>
  cases i with
  |zero=>simp [itV]
  |succ i=>
   have hl:y.cells.length=2:=rfl;rw [j6,List.take_succ_cons,j6,List.take_append,hl,List.take_of_length_le oy,show (i+1)*2-2=i*2 from by omega,ih i]
theorem afg (l:List It)(i:Nat):(itV l).drop (i*2)=itV (l.drop i):=by
 induction l generalizing i with
 |nil=>simp [itV]
 |cons y l ih=>
  cases i with
  |zero=>simp [itV]
  |succ i=>
   have hl:y.cells.length=2:=rfl;rw [j6,List.drop_succ_cons,List.drop_append,hl,List.drop_of_length_le oy,List.nil_append,show (i+1)*2-2=i*2 from by omega,ih i]
theorem j5 (x:Le)(l:List Le):leV (x :: l)=x.cells++leV l:=by simp [leV]
theorem kM (l:List Le):(leV l).length=l.length*4:=by
 induction l with
 |nil=>rfl
 |cons x l ih=>rw [j5,List.length_append,List.length_cons,ih];simp [Le.cells];omega
theorem ajd (l:List Le):∀u∈leV l,u.oneCell' =true:=by
 intro u hu;simp only [leV,List.mem_flatMap] at hu;obtain ⟨x,_,hx⟩:=hu;simp only [Le.cells,List.mem_cons,List.not_mem_nil,or_false] at hx
 rcases hx with rfl|rfl|rfl|rfl
 all_goals rfl
theorem aje:∀(l:List Le) (i j:Nat) (x:Le),l[i]? =some x→j<4→(leV l)[i*4+j]? =x.cells[j]? :=by
 intro l
 induction l with
 |nil=>intro i j x h;simp at h
 |cons y l ih=>
  intro i j x h hj;rw [j5];have hl:y.cells.length=4:=rfl
  cases i with
  |zero=>
   simp at h
   subst h;rw [Nat.zero_mul,Nat.zero_add,List.getElem?_append_left oy]
  |succ i=>
   rw [List.getElem?_append_right oy,hl,show (i+1)*4+j-4=i*4+j from by omega];exact ih i j x (by simpa using h) hj
theorem wW (l:List Le)(i:Nat):(leV l).take (i*4)=leV (l.take i):=by
 induction l generalizing i with
 |nil=>simp [leV]
 |cons y l ih=>
  cases i with
  |zero=>simp [leV]
  |succ i=>
   have hl:y.cells.length=4:=rfl;rw [j5,List.take_succ_cons,j5,List.take_append,hl,List.take_of_length_le oy,show (i+1)*4-4=i*4 from by omega,ih i]
theorem afb (l:List Le)(i:Nat):(leV l).drop (i*4)=leV (l.drop i):=by
 induction l generalizing i with
 |nil=>simp [leV]
 |cons y l ih=>
  cases i with
  |zero=>simp [leV]
  |succ i=>
   have hl:y.cells.length=4:=rfl;rw [j5,List.drop_succ_cons,List.drop_append,hl,List.drop_of_length_le oy,List.nil_append,show (i+1)*4-4=i*4 from by omega,ih i]
theorem vT (x:Wn)(l:List Wn):wnV (x :: l)=x.cells++wnV l:=by simp [wnV]
theorem tK (l:List Wn):(wnV l).length=l.length*5:=by
 induction l with
 |nil=>rfl
 |cons x l ih=>rw [vT,List.length_append,List.length_cons,ih];simp [Wn.cells];omega
theorem zM (l:List Wn):∀u∈wnV l,u.oneCell' =true:=by
 intro u hu;simp only [wnV,List.mem_flatMap] at hu;obtain ⟨x,_,hx⟩:=hu;simp only [Wn.cells,List.mem_cons,List.not_mem_nil,or_false] at hx
 rcases hx with rfl|rfl|rfl|rfl|rfl
 all_goals rfl
theorem ah2:∀(l:List Wn) (i j:Nat) (x:Wn),l[i]? =some x→j<5→(wnV l)[i*5+j]? =x.cells[j]? :=by
 intro l
 induction l with
 |nil=>intro i j x h;simp at h
 |cons y l ih=>
  intro i j x h hj;rw [vT];have hl:y.cells.length=5:=rfl
  cases i with
  |zero=>
   simp at h
   subst h;rw [Nat.zero_mul,Nat.zero_add,List.getElem?_append_left oy]
  |succ i=>
   rw [List.getElem?_append_right oy,hl,show (i+1)*5+j-5=i*5+j from by omega];exact ih i j x (by simpa using h) hj
theorem gM (x:Ss)(l:List Ss):ssV (x :: l)=x.cells++ssV l:=by simp [ssV]
theorem aah (l:List Ss):(ssV l).length=l.length*5:=by
 induction l with
 |nil=>rfl
 |cons x l ih=>rw [gM,List.length_append,List.length_cons,ih];simp [Ss.cells];omega
theorem aie (l:List Ss):∀u∈ssV l,u.oneCell' =true:=by
 intro u hu;simp only [ssV,List.mem_flatMap] at hu;obtain ⟨x,_,hx⟩:=hu;simp only [Ss.cells,List.mem_cons,List.not_mem_nil,or_false] at hx
 rcases hx with rfl|rfl|rfl|rfl|rfl
 all_goals rfl
theorem aif:∀(l:List Ss) (i j:Nat) (x:Ss),l[i]? =some x→j<5→(ssV l)[i*5+j]? =x.cells[j]? :=by
 intro l
 induction l with
 |nil=>intro i j x h;simp at h
 |cons y l ih=>
  intro i j x h hj;rw [gM];have hl:y.cells.length=5:=rfl
  cases i with
  |zero=>
   simp at h
   subst h;rw [Nat.zero_mul,Nat.zero_add,List.getElem?_append_left oy]
  |succ i=>
   rw [List.getElem?_append_right oy,hl,show (i+1)*5+j-5=i*5+j from by omega];exact ih i j x (by simpa using h) hj
theorem aed (l:List Ss)(i:Nat):(ssV l).drop (i*5)=ssV (l.drop i):=by
 induction l generalizing i with
 |nil=>simp [ssV]
 |cons y l ih=>
  cases i with
  |zero=>simp [ssV]
  |succ i=>
   have hl:y.cells.length=5:=rfl;rw [gM,List.drop_succ_cons,List.drop_append,hl,List.drop_of_length_le oy,List.nil_append,show (i+1)*5-5=i*5 from by omega,ih i]
def wR (v:Value):Option (DataW Unit×List MemPlace):=
 match v with
 | .agg a=>match a.toList with
  |[.string s,.int .i64 n]=>if s.size≤maxLen then some (wD s n,[]) else none
  |_=>none
 |_=>none
theorem ah3 {s:ByteArray}{n:Int}(h:s.size≤maxLen):wR (.agg #[.string s,.int .i64 n])=some (wD s n,[]):=by simp [wR,h]
theorem zT {v:Value}{d:DataW Unit}{p:List MemPlace}(h:wR v=some (d,p)):∃s n,v= .agg #[.string s,.int .i64 n]∧d=wD s n∧s.size≤maxLen:=by
 unfold wR at h
 split at h
 ·rename_i a
  split at h
  ·rename_i s n he
   split at h
   ·rename_i hs
    simp only [Option.some.injEq,Prod.mk.injEq] at h;refine ⟨s,n,?_,h.1.symm,hs⟩
    congr 1
    exact Array.ext' he
   ·cases h
  ·cases h
 ·cases h
variable {w w' :World}{F G:Nat→Prop}
theorem fG {H:Type}{P:Program}{k:TypeId}{R:Value→Option (DataW H×List MemPlace)}{b n:Nat}{D:DataW H}(h:w.ownsMap P k R b n D)(hf:Fr F w w')(hn:¬F b):w'.ownsMap P k R b n D:=by
 have hlt:=h.lt;obtain ⟨es,clock,hb,x⟩:=h;exact ⟨es,clock,(hf.block b hlt hn).trans hb,x⟩
theorem gQ {H:Type}{P:Program}{k:TypeId}{R:Value→Option (DataW H×List MemPlace)}{b n:Nat}{D:DataW H}(h:w.ownsMap P k R b n D):w.ownsMap P k R b (Maps.size D) D:=by
 obtain ⟨es,clock,hb,hF,hn,rfl⟩:=h;exact ⟨es,clock,hb,hF,by rw [Maps.size_eq,length_read];exact Nat.le_refl _,rfl⟩
def bX (w:World)(F:Nat→Prop)(s:Nat)(D:DataW Unit):Prop:=
 ∃m,F s∧F m∧Blk w s auz #[.map (some m)]∧w.ownsMap Tryz.prog TS_ wR m (Maps.size D) D∧Maps.size D≤32
def aV (w:World)(F:Nat→Prop)(q:Nat)(its:List It)(les:List Le)(gr:Int):Prop:=
 ∃Ai ci Al cl,F q∧Blk w q arj #[.slice Ai its.length ci,.slice Al les.length cl,.int .i64 gr]∧aA w F TIt 2 (.slice Ai its.length ci) its.length (itV its)∧aA w F TLe 4 (.slice Al les.length cl) les.length (leV les)
def aY (w:World)(F:Nat→Prop)(t:Nat)(ss:List Ss):Prop:=
 F t∧Blk w t auy (ssV ss).toArray∧ss.length=8∧∀s∈ss,0≤s.nm∧s.nm≤1048576
def bY (w:World)(F:Nat→Prop)(g:Nat)(cell cd:Int)(ws:List Wn):Prop:=
 ∃Aw cw,F g∧Blk w g ao5 #[.int .i64 cell,.int .i64 cd,.slice Aw ws.length cw]∧aA w F nK 5 (.slice Aw ws.length cw) ws.length (wnV ws)
theorem bX.fr {s:Nat}{D:DataW Unit}(h:bX w F s D)(hf:Fr G w w')(hd:∀i,F i→¬G i):bX w' F s D:=by
 obtain ⟨m,f1,f2,b,o,z⟩:=h;exact ⟨m,f1,f2,b.fr hf (hd _ f1),fG o hf (hd _ f2),z⟩
theorem bX.mono {s:Nat}{D:DataW Unit}(h:bX w F s D)(hFG:∀i,F i→G i):bX w G s D:=by
 obtain ⟨m,f1,f2,x⟩:=h;exact ⟨m,hFG _ f1,hFG _ f2,x⟩
theorem aA.frF {e:TypeId}{size n:Nat}{v:Value}{xs:List Value}(h:aA w F e size v n xs)(hf:Fr G w w')(hd:∀i,F i→¬G i):aA w' F e size v n xs:=h.fr' hf fun g hg=>hd g (h.2 g hg)
theorem aV.fr {q:Nat}{its:List It}{les:List Le}{gr:Int}(h:aV w F q its les gr)(hf:Fr G w w')(hd:∀i,F i→¬G i):aV w' F q its les gr:=by
 obtain ⟨Ai,ci,Al,cl,f1,b,o1,o2⟩:=h;exact ⟨Ai,ci,Al,cl,f1,b.fr hf (hd _ f1),o1.frF hf hd,o2.frF hf hd⟩
theorem aV.mono {q:Nat}{its:List It}{les:List Le}{gr:Int}(h:aV w F q its les gr)(hFG:∀i,F i→G i):aV w G q its les gr:=by
 obtain ⟨Ai,ci,Al,cl,f1,b,o1,o2⟩:=h;exact ⟨Ai,ci,Al,cl,hFG _ f1,b,o1.mono hFG,o2.mono hFG⟩
theorem aY.fr {t:Nat}{ss:List Ss}(h:aY w F t ss)(hf:Fr G w w')(hd:∀i,F i→¬G i):aY w' F t ss:=⟨h.1,h.2.1.fr hf (hd _ h.1),h.2.2⟩
theorem aY.mono {t:Nat}{ss:List Ss}(h:aY w F t ss)(hFG:∀i,F i→G i):aY w G t ss:=⟨hFG _ h.1,h.2⟩
theorem bY.fr {g:Nat}{cell cd:Int}{ws:List Wn}(h:bY w F g cell cd ws)(hf:Fr G w w')(hd:∀i,F i→¬G i):bY w' F g cell cd ws:=by
 obtain ⟨Aw,cw,f1,b,o⟩:=h;exact ⟨Aw,cw,f1,b.fr hf (hd _ f1),o.frF hf hd⟩
theorem bY.mono {g:Nat}{cell cd:Int}{ws:List Wn}(h:bY w F g cell cd ws)(hFG:∀i,F i→G i):bY w G g cell cd ws:=by
 obtain ⟨Aw,cw,f1,b,o⟩:=h;exact ⟨Aw,cw,hFG _ f1,b,o.mono hFG⟩
def gI (w:World)(F:Nat→Prop)(s q t:Nat)(n:Nw):Prop:=bX w F s n.D∧aV w F q n.its n.les n.gr∧aY w F t n.ss
structure aM (w:World) (F:Nat→Prop) (p:Nat) (c:Kp):Prop where
 lt:∀i,F i→i<w.heap.size
 fp:F p
 at_:∃s q t g Ah ch,Blk w p nW #[.int .i64 c.cell,.int .i64 c.ten,.slice Ah c.h.length ch,.pointer (some ⟨s,0,none⟩),.pointer (some ⟨q,0,none⟩),.pointer (some ⟨t,0,none⟩),.pointer (some ⟨g,0,none⟩)]∧
  aA w F TCh 8 (.slice Ah c.h.length ch) c.h.length (chV c.h)∧gI w F s q t c.nw∧bY w F g c.cell c.cd c.ws
theorem gI.fr {s q t:Nat}{n:Nw}(h:gI w F s q t n)(hf:Fr G w w')(hd:∀i,F i→¬G i):gI w' F s q t n:=⟨h.1.fr hf hd,h.2.1.fr hf hd,h.2.2.fr hf hd⟩
theorem aM.fr {p:Nat}{c:Kp}(h:aM w F p c)(hf:Fr G w w')(hd:∀i,F i→¬G i):aM w' F p c:=by
 obtain ⟨s,q,t,g,Ah,ch,b,o,n,k⟩:=h.at_;exact ⟨fun i hi=>nll (h.lt i hi) hf.size,h.fp,s,q,t,g,Ah,ch,b.fr hf (hd _ h.fp),o.frF hf hd,n.fr hf hd,k.fr hf hd⟩
theorem aM.au {p:Nat}{c:Kp}(h:aM w F p c)(hf:Fr No w w'):aM w' F p c:=h.fr hf fun _ _ hi=>hi
def CTo (w:World)(F:Nat→Prop)(p:Nat)(c:Kp)(w' :World):Prop:=∃F',aM w' F' p c∧(∀i,F' i→F i∨w.heap.size≤i)∧Fr F w w'
end
theorem Rd.lI {w:World}{A:Option Addr}{l:List Ch}(h:Rd w w.heap.size A (chV l)){i:Nat}(hi:i<l.length):
  ∃b off x,A=some ⟨b,off,none⟩∧l[i]? =some x∧∀W,Fr No w W→(W.cell? ⟨b,off+i*8,none⟩=some (.int .i64 x.ep)∧W.cell? ⟨b,off+i*8+1,none⟩=some (.int .i64 x.sq)∧W.cell? ⟨b,off+i*8+2,none⟩=some (.int .i64 x.kd)∧W.cell? ⟨b,off+i*8+3,none⟩=some (.int .i64 x.cl)∧W.cell? ⟨b,off+i*8+4,none⟩=some (.int .i64 x.nm)∧W.cell? ⟨b,off+i*8+5,none⟩=some (.int .i64 x.it)∧W.cell? ⟨b,off+i*8+6,none⟩=some (.string x.ky)∧W.cell? ⟨b,off+i*8+7,none⟩=some (.string x.vl)):=by
 have hl:=qz l;have hx:l[i]? =some l[i]:=List.getElem?_eq_getElem hi
 rcases h with h0|⟨b,off,rfl,hb,hc⟩
 ·rw [h0] at hl;simp at hl;omega
 refine ⟨b,off,l[i],rfl,hx,fun W hW=> ?_⟩;have e:=fun j (hj:j<8)=>((hW.cell (p:=⟨b,off+(i*8+j),none⟩) hb id).trans (by rw [hc (i*8+j) oy,←List.getElem?_eq_getElem,ajz l i j _ hx hj]):W.cell? ⟨b,off+(i*8+j),none⟩=(l[i]).cells[j]?);exact ⟨e 0 oy,e 1 oy,e 2 oy,e 3 oy,e 4 oy,e 5 oy,e 6 oy,e 7 oy⟩
theorem Rd.amc {w:World}{A:Option Addr}{l:List It}(h:Rd w w.heap.size A (itV l)){i:Nat}(hi:i<l.length):
  ∃b off x,A=some ⟨b,off,none⟩∧l[i]? =some x∧∀W,Fr No w W→(W.cell? ⟨b,off+i*2,none⟩=some (.int .i64 x.nm)∧W.cell? ⟨b,off+i*2+1,none⟩=some (.string x.vl)):=by
 have hl:=uM l;have hx:l[i]? =some l[i]:=List.getElem?_eq_getElem hi
 rcases h with h0|⟨b,off,rfl,hb,hc⟩
 ·rw [h0] at hl;simp at hl;omega
 refine ⟨b,off,l[i],rfl,hx,fun W hW=> ?_⟩;have e:=fun j (hj:j<2)=>((hW.cell (p:=⟨b,off+(i*2+j),none⟩) hb id).trans (by rw [hc (i*2+j) oy,←List.getElem?_eq_getElem,ajh l i j _ hx hj]):W.cell? ⟨b,off+(i*2+j),none⟩=(l[i]).cells[j]?);exact ⟨e 0 oy,e 1 oy⟩
theorem Rd.afc {w:World}{A:Option Addr}{l:List Le}(h:Rd w w.heap.size A (leV l)){i:Nat}(hi:i<l.length):
  ∃b off x,A=some ⟨b,off,none⟩∧l[i]? =some x∧∀W,Fr No w W→(W.cell? ⟨b,off+i*4,none⟩=some (.int .i64 x.it)∧W.cell? ⟨b,off+i*4+1,none⟩=some (.int .i64 x.cl)∧W.cell? ⟨b,off+i*4+2,none⟩=some (.int .i64 x.ep)∧W.cell? ⟨b,off+i*4+3,none⟩=some (.int .i64 x.un)):=by
 have hl:=kM l;have hx:l[i]? =some l[i]:=List.getElem?_eq_getElem hi
 rcases h with h0|⟨b,off,rfl,hb,hc⟩
 ·rw [h0] at hl;simp at hl;omega
 refine ⟨b,off,l[i],rfl,hx,fun W hW=> ?_⟩;have e:=fun j (hj:j<4)=>((hW.cell (p:=⟨b,off+(i*4+j),none⟩) hb id).trans (by rw [hc (i*4+j) oy,←List.getElem?_eq_getElem,aje l i j _ hx hj]):W.cell? ⟨b,off+(i*4+j),none⟩=(l[i]).cells[j]?);exact ⟨e 0 oy,e 1 oy,e 2 oy,e 3 oy⟩
theorem Rd.apl {w:World}{A:Option Addr}{l:List Wn}(h:Rd w w.heap.size A (wnV l)){i:Nat}(hi:i<l.length):
  ∃b off x,A=some ⟨b,off,none⟩∧l[i]? =some x∧∀W,Fr No w W→(W.cell? ⟨b,off+i*5,none⟩=some (.int .i64 x.cl)∧W.cell? ⟨b,off+i*5+1,none⟩=some (.int .i64 x.ep)∧W.cell? ⟨b,off+i*5+2,none⟩=some (.int .i64 x.vs)∧W.cell? ⟨b,off+i*5+3,none⟩=some (.int .i64 x.fm)∧W.cell? ⟨b,off+i*5+4,none⟩=some (.int .i64 x.un)):=by
 have hl:=tK l;have hx:l[i]? =some l[i]:=List.getElem?_eq_getElem hi
 rcases h with h0|⟨b,off,rfl,hb,hc⟩
 ·rw [h0] at hl;simp at hl;omega
 refine ⟨b,off,l[i],rfl,hx,fun W hW=> ?_⟩;have e:=fun j (hj:j<5)=>((hW.cell (p:=⟨b,off+(i*5+j),none⟩) hb id).trans (by rw [hc (i*5+j) oy,←List.getElem?_eq_getElem,ah2 l i j _ hx hj]):W.cell? ⟨b,off+(i*5+j),none⟩=(l[i]).cells[j]?);exact ⟨e 0 oy,e 1 oy,e 2 oy,e 3 oy,e 4 oy⟩
theorem bY.parts {w:World}{F:Nat→Prop}{g:Nat}{cell cd:Int}{ws:List Wn}(h:bY w F g cell cd ws):∃Aw cw,ws.length≤cw∧cw≤maxLen∧(Aw=none→ws.length=0)∧Rd w w.heap.size Aw (wnV ws)∧
  ∀W,Fr No w W→(W.cell? ⟨g,0,none⟩=some (.int .i64 cell)∧W.cell? ⟨g,1,none⟩=some (.int .i64 cd)∧W.cell? ⟨g,2,none⟩=some (.slice Aw ws.length cw)):=by
 obtain ⟨Aw,cw,f1,b,o⟩:=h;obtain ⟨_,_,e,n0⟩:=o.form
 cases e
 exact ⟨Aw,cw,o.cap.1,o.cap.2,n0,o.rd,fun W hW=>⟨(b.fr hW id).cell 0,(b.fr hW id).cell 1,(b.fr hW id).cell 2⟩⟩
theorem adb {ws:List Wn}{k:Nat}{x:Wn}(v t:Int)(hx:ws[k]? =some x):lV (ws.take (k+1)) v t=if x.vs=v∧x.fm≤t∧t<x.un then max (lV (ws.take k) v t) x.ep else lV (ws.take k) v t:=by
 rw [List.take_add_one,hx]
 simp [lV,List.foldl_append]
set_option maxHeartbeats 2000000 in
theorem vO {w:World}{F:Nat→Prop}{g:Nat}{cell cd:Int}{ws:List Wn}(h:bY w F g cell cd ws)(v t:Int):
  Calls Tryz.prog 41 #[.pointer (some ⟨g,0,none⟩),.int .i64 v,.int .i64 t] w fun e w' =>e= .returned (.tuple #[.int .i64 (lV ws v t),.bool (decide (0<lV ws v t))])∧Fr No w w' :=by
 obtain ⟨Aw,cw,hc1,hc2,hn0,hrd,hg⟩:=h.parts;have hat:=fun i (hi:i<ws.length)=>hrd.apl hi;unfold maxLen at hc2;obtain ⟨g0,g1,g2⟩:=hg w (Fr.refl _ _);clear h hg hrd;obtain ⟨HAT,HN0⟩:=aN hat hn0;clear hat hn0
 go_in
 go_wp2_with fail
 go_loopw [8,16] (fun a i wr=>∃k:Nat,k≤ws.length∧i= .int .i64 k∧a= .int .i64 (lV (ws.take k) v t)∧Fr No w wr) (fun _ i _=>ws.length-(intOf i).toNat)
 case atStart=>exact ⟨0,Nat.zero_le _,rfl,rfl,Fr.refl _ _⟩
 case round=>
  obtain ⟨k,hk,rfl,rfl,hf⟩:=hrel;have hF:=O hf;clear hf g0 g1 g2
  by_cases hlt:k<ws.length
  ·obtain ⟨b,off,x,rfl,hx,hcl⟩:=HAT.out k hlt
   have hsn:=adb v t hx;obtain ⟨x0,x1,x2,x3,x4⟩:=hcl wr hF.out;obtain ⟨ah1,ah0,avm,avn,agw⟩:=x;simp only at x0 x1 x2 x3 x4 hsn;generalize lV (ws.take k) v t=acc at hsn ⊢;have HS:=O hsn;clear hsn hcl hx
   cases c1:avm == v
   ·have HE:=O (HS.out.trans (if_neg (fun h=>by rw [beq_eq_false_iff_ne] at c1;exact c1 h.1)))
    clear HS
    go_wp2
    go_roundw
    case rel=>exact ⟨k+1,by omega,by go_num,by rw [HE.out],hF.out.alloc _⟩
    case measure=>simp [intOf];omega
   ·cases c2:decide (avn≤t)
    ·have HE:=O (HS.out.trans (if_neg (fun h=>of_decide_eq_false c2 h.2.1)))
     clear HS
     go_wp2
     go_roundw
     case rel=>exact ⟨k+1,by omega,by go_num,by rw [HE.out],hF.out.alloc _⟩
     case measure=>simp [intOf];omega
    ·cases c3:decide (t<agw)
     ·have HE:=O (HS.out.trans (if_neg (fun h=>of_decide_eq_false c3 h.2.2)))
      clear HS
      go_wp2
      go_roundw
      case rel=>exact ⟨k+1,by omega,by go_num,by rw [HE.out],hF.out.alloc _⟩
      case measure=>simp [intOf];omega
     ·have HE:=O (HS.out.trans (if_pos ⟨by simpa using c1,of_decide_eq_true c2,of_decide_eq_true c3⟩))
      clear HS
      go_wp2
      go_roundw
      case rel=>exact ⟨k+1,by omega,by go_num,by rw [HE.out];first|rfl|(congr 1;omega),hF.out.alloc _⟩
      case measure=>simp [intOf];omega
  ·have hta:ws.take k=ws:=List.take_of_length_le oy
   rw [hta];clear hta
   go_wp2
   go_ret2
   exact ⟨rfl,hF.out⟩
theorem aeb (s:ByteArray)(w:World)(hs:s.size≤maxLen):Calls Tryz.prog 126 #[.string s] w fun e w' =>e= .returned (.bool (iF s))∧w=w' :=by
 unfold maxLen at hs;unfold iF
 go_in
 go_wp2
 all_goals
  go_ret
  exact ⟨aS (by rw [Bool.eq_iff_iff];simp;try omega),rfl⟩
theorem xZ (s:ByteArray)(w:World)(hs:s.size≤maxLen):Calls Tryz.prog 127 #[.string s] w fun e w' =>e= .returned (.bool (iP s))∧w=w' :=by
 unfold maxLen at hs;unfold iP
 go_in
 go_wp2
 all_goals
  go_ret
  exact ⟨aS (by rw [Bool.eq_iff_iff];simp;try omega),rfl⟩
theorem agd (s:ByteArray)(w:World)(hs:s.size≤maxLen):Calls Tryz.prog 77 #[.string s] w fun e w' =>e= .returned (.bool (iF s))∧w=w' :=by
 unfold maxLen at hs;unfold iF
 go_in
 go_wp2
 all_goals
  go_ret
  exact ⟨aS (by rw [Bool.eq_iff_iff];simp;try omega),rfl⟩
theorem zl (s:ByteArray)(w:World)(hs:s.size≤maxLen):Calls Tryz.prog 78 #[.string s] w fun e w' =>e= .returned (.bool (iP s))∧w=w' :=by
 unfold maxLen at hs;unfold iP
 go_in
 go_wp2
 all_goals
  go_ret
  exact ⟨aS (by rw [Bool.eq_iff_iff];simp;try omega),rfl⟩
theorem qg (s:ByteArray):(s=noS)=(s.toList=[]):=by
 rw [ByteArray.toList_eq,eq_iff_iff]
 constructor
 ·intro h;subst h;rfl
 ·intro h
  obtain ⟨⟨l⟩⟩:=s;have h:l=[]:=h;subst h
  rfl
theorem iX (x:Ch)(w:World)(hk:x.ky.size≤maxLen)(hv:x.vl.size≤maxLen):Calls Tryz.prog 88 #[.agg #[.int .i64 x.ep,.int .i64 x.sq,.int .i64 x.kd,.int .i64 x.cl,.int .i64 x.nm,.int .i64 x.it,.string x.ky,.string x.vl]] w fun e w' =>e= .returned (.bool (chB x))∧Fr No w w' :=by
 obtain ⟨ep,sq,kd,cl,nm,it,ky,vl⟩:=x;simp only at*;have h1:=aeb ky;have h2:=xZ vl;have hF:Fr No w (w.alloc (.cells #[.int .i64 ep,.int .i64 sq,.int .i64 kd,.int .i64 cl,.int .i64 nm,.int .i64 it,.string ky,.string vl] TCh)):=aj _ _;generalize hq:chB ⟨ep,sq,kd,cl,nm,it,ky,vl⟩=q;unfold chB at hq;simp only at hq;revert hq h1 h2;generalize iF ky=b1;generalize iP vl=b2;intro h1 h2 hq;obtain ⟨HQ,H1,H2,HF⟩:=fV hq h1 h2 hF;clear hq h1 h2 hF
 cases c14:decide (ep<1)
 focus
  cases c15:decide (1048576<ep)
  focus
   cases c16:decide (sq<1)
   focus
    cases c17:decide (4096<sq)
    focus
     cases c18:decide (cl<1)
     focus
      cases c19:decide (8<cl)
      focus
       cases c20:decide (nm<1)
       focus
        cases c21:decide (1048576<nm)
        focus
         by_cases k1:kd=1
         focus
          subst k1
          cases b1
          focus
           obtain ⟨v,hm⟩:∃v,v=false:=⟨_,rfl⟩
          rotate_left
          focus
           cases b2
           focus
            obtain ⟨v,hm⟩:∃v,v=false:=⟨_,rfl⟩
           rotate_left
           focus
            cases c3:it == 0
            focus
             obtain ⟨v,hm⟩:∃v,v=false:=⟨_,rfl⟩
            rotate_left
            focus
             obtain ⟨v,hm⟩:∃v,v=true:=⟨_,rfl⟩
         rotate_left 4
         focus
          have k1' :(kd == 1)=false:=by simpa using k1
          by_cases k2:kd=2
          focus
           subst k2
           cases b1
           focus
            obtain ⟨v,hm⟩:∃v,v=false:=⟨_,rfl⟩
           rotate_left
           focus
            by_cases c5:(vl.toList=[])
            focus
             cases c6:it == 0
             focus
              obtain ⟨v,hm⟩:∃v,v=false:=⟨_,rfl⟩
             rotate_left
             focus
              obtain ⟨v,hm⟩:∃v,v=true:=⟨_,rfl⟩
            rotate_left 2
            focus
             obtain ⟨v,hm⟩:∃v,v=false:=⟨_,rfl⟩
          rotate_left 4
          focus
           have k2' :(kd == 2)=false:=by simpa using k2
           by_cases k3:kd=3
           focus
            subst k3
            by_cases c7:(ky.toList=[])
            focus
             cases b2
             focus
              obtain ⟨v,hm⟩:∃v,v=false:=⟨_,rfl⟩
             rotate_left
             focus
              cases c9:it == 0
              focus
               obtain ⟨v,hm⟩:∃v,v=false:=⟨_,rfl⟩
              rotate_left
              focus
               obtain ⟨v,hm⟩:∃v,v=true:=⟨_,rfl⟩
            rotate_left 3
            focus
             obtain ⟨v,hm⟩:∃v,v=false:=⟨_,rfl⟩
           rotate_left 4
           focus
            have k3' :(kd == 3)=false:=by simpa using k3
            by_cases k4:kd=4
            focus
             subst k4
             by_cases c10:(ky.toList=[])
             focus
              by_cases c11:(vl.toList=[])
              focus
               cases c12:decide (1≤it)
               focus
                obtain ⟨v,hm⟩:∃v,v=false:=⟨_,rfl⟩
               rotate_left
               focus
                cases c13:decide (it<sq)
                focus
                 obtain ⟨v,hm⟩:∃v,v=false:=⟨_,rfl⟩
                rotate_left
                focus
                 obtain ⟨v,hm⟩:∃v,v=true:=⟨_,rfl⟩
              rotate_left 3
              focus
               obtain ⟨v,hm⟩:∃v,v=false:=⟨_,rfl⟩
             rotate_left 4
             focus
              obtain ⟨v,hm⟩:∃v,v=false:=⟨_,rfl⟩
            rotate_left 5
            focus
             have k4' :(kd == 4)=false:=by simpa using k4
             obtain ⟨v,hm⟩:∃v,v=false:=⟨_,rfl⟩
        rotate_left 18
        focus
         obtain ⟨v,hm⟩:∃v,v=false:=⟨_,rfl⟩
       rotate_left 19
       focus
        obtain ⟨v,hm⟩:∃v,v=false:=⟨_,rfl⟩
      rotate_left 20
      focus
       obtain ⟨v,hm⟩:∃v,v=false:=⟨_,rfl⟩
     rotate_left 21
     focus
      obtain ⟨v,hm⟩:∃v,v=false:=⟨_,rfl⟩
    rotate_left 22
    focus
     obtain ⟨v,hm⟩:∃v,v=false:=⟨_,rfl⟩
   rotate_left 23
   focus
    obtain ⟨v,hm⟩:∃v,v=false:=⟨_,rfl⟩
  rotate_left 24
  focus
   obtain ⟨v,hm⟩:∃v,v=false:=⟨_,rfl⟩
 rotate_left 25
 focus
  obtain ⟨v,hm⟩:∃v,v=false:=⟨_,rfl⟩
 all_goals
  have hq:q=v:=by
   subst hm;have hq:=HQ.out;clear HQ H1 H2 HF
   first|(simp_all;done)|(simp_all [btw];done)|(simp only [qg] at*;simp_all [btw];done)|(simp only [qg] at*;simp_all;done)|(cases q;rfl;exfalso;simp only [Bool.and_eq_true,decide_eq_true_eq,btw] at*;omega)|(cases q;rfl;exfalso;simp only [Bool.and_eq_true,decide_eq_true_eq,decide_eq_false_iff_not,btw] at*;omega)|(cases q;rfl;exfalso;simp [btw] at*;omega)
  subst hm;subst hq;clear HQ
  go_in
  go_wp2_with (first|(go_at_call 126;(with_reducible refine (H1.out _ hk).mono ?_);rintro e w' ⟨rfl,rfl⟩)|(go_at_call 127;(with_reducible refine (H2.out _ hv).mono ?_);rintro e w' ⟨rfl,rfl⟩))
  go_ret
  exact ⟨aS (by first|rfl|(simp_all;done)),HF.out⟩
abbrev TRq:TypeId:=37
def Rq.arr (r:Rq):Array Value:= #[.int .i64 r.tn,.int .i64 r.cl,.int .i64 r.nm,.int .i64 r.op,.int .i64 r.it,.string r.ky,.string r.vl]
set_option maxHeartbeats 8000000 in
theorem acw (x:Rq)(w:World)(hk:x.ky.size≤maxLen)(hv:x.vl.size≤maxLen):Calls Tryz.prog 40 #[.agg x.arr] w fun e w' =>e= .returned (.bool (rqB x))∧Fr No w w' :=by
 obtain ⟨tn,cl,nm,op,it,ky,vl⟩:=x;unfold Rq.arr;simp only at*;have h1:=agd ky;have h2:=zl vl;have hF:Fr No w (w.alloc (.cells #[.int .i64 tn,.int .i64 cl,.int .i64 nm,.int .i64 op,.int .i64 it,.string ky,.string vl] TRq)):=aj _ _;generalize hq:rqB ⟨tn,cl,nm,op,it,ky,vl⟩=q;unfold rqB at hq;simp only at hq;revert hq h1 h2;generalize iF ky=b1;generalize iP vl=b2;intro h1 h2 hq;obtain ⟨HQ,H1,H2,HF⟩:=fV hq h1 h2 hF;clear hq h1 h2 hF
 cases c43:decide (tn<0)
 focus
  cases c44:decide (32≤tn)
  focus
   cases c45:decide (cl<1)
   focus
    cases c46:decide (8<cl)
    focus
     cases n1:decide (1≤nm)
     focus
      by_cases k1:op=1
      focus
       subst k1
       cases c22:nm == 0
       focus
        obtain ⟨v,hm⟩:∃v,v=false:=⟨_,rfl⟩
       rotate_left
       focus
        cases c23:it == 0
        focus
         obtain ⟨v,hm⟩:∃v,v=false:=⟨_,rfl⟩
        rotate_left
        focus
         cases b1
         focus
          obtain ⟨v,hm⟩:∃v,v=false:=⟨_,rfl⟩
         rotate_left
         focus
          by_cases c25:(vl.toList=[])
          focus
           obtain ⟨v,hm⟩:∃v,v=true:=⟨_,rfl⟩
          rotate_left
          focus
           obtain ⟨v,hm⟩:∃v,v=false:=⟨_,rfl⟩
      rotate_left 5
      focus
       have k1' :(op == 1)=false:=by simpa using k1
       by_cases k2:op=2
       focus
        subst k2;obtain ⟨v,hm⟩:∃v,v=false:=⟨_,rfl⟩
       rotate_left
       focus
        have k2' :(op == 2)=false:=by simpa using k2
        by_cases k3:op=3
        focus
         subst k3;obtain ⟨v,hm⟩:∃v,v=false:=⟨_,rfl⟩
        rotate_left
        focus
         have k3' :(op == 3)=false:=by simpa using k3
         by_cases k4:op=4
         focus
          subst k4;obtain ⟨v,hm⟩:∃v,v=false:=⟨_,rfl⟩
         rotate_left
         focus
          have k4' :(op == 4)=false:=by simpa using k4
          by_cases k5:op=5
          focus
           subst k5
           cases c26:nm == 0
           focus
            obtain ⟨v,hm⟩:∃v,v=false:=⟨_,rfl⟩
           rotate_left
           focus
            cases c27:it == 0
            focus
             obtain ⟨v,hm⟩:∃v,v=false:=⟨_,rfl⟩
            rotate_left
            focus
             by_cases c28:(ky.toList=[])
             focus
              by_cases c29:(vl.toList=[])
              focus
               obtain ⟨v,hm⟩:∃v,v=true:=⟨_,rfl⟩
              rotate_left
              focus
               obtain ⟨v,hm⟩:∃v,v=false:=⟨_,rfl⟩
             rotate_left 2
             focus
              obtain ⟨v,hm⟩:∃v,v=false:=⟨_,rfl⟩
          rotate_left 5
          focus
           have k5' :(op == 5)=false:=by simpa using k5
           by_cases k6:op=6
           focus
            subst k6;obtain ⟨v,hm⟩:∃v,v=false:=⟨_,rfl⟩
           rotate_left
           focus
            have k6' :(op == 6)=false:=by simpa using k6
            obtain ⟨v,hm⟩:∃v,v=false:=⟨_,rfl⟩
     rotate_left 15
     focus
      have n0:(nm == 0)=false:=by simp at n1 ⊢;omega
      cases n2:decide (nm≤1048576)
      focus
       by_cases k1:op=1
       focus
        subst k1;obtain ⟨v,hm⟩:∃v,v=false:=⟨_,rfl⟩
       rotate_left
       focus
        have k1' :(op == 1)=false:=by simpa using k1
        by_cases k2:op=2
        focus
         subst k2;obtain ⟨v,hm⟩:∃v,v=false:=⟨_,rfl⟩
        rotate_left
        focus
         have k2' :(op == 2)=false:=by simpa using k2
         by_cases k3:op=3
         focus
          subst k3;obtain ⟨v,hm⟩:∃v,v=false:=⟨_,rfl⟩
         rotate_left
         focus
          have k3' :(op == 3)=false:=by simpa using k3
          by_cases k4:op=4
          focus
           subst k4;obtain ⟨v,hm⟩:∃v,v=false:=⟨_,rfl⟩
          rotate_left
          focus
           have k4' :(op == 4)=false:=by simpa using k4
           by_cases k5:op=5
           focus
            subst k5;obtain ⟨v,hm⟩:∃v,v=false:=⟨_,rfl⟩
           rotate_left
           focus
            have k5' :(op == 5)=false:=by simpa using k5
            by_cases k6:op=6
            focus
             subst k6;obtain ⟨v,hm⟩:∃v,v=false:=⟨_,rfl⟩
            rotate_left
            focus
             have k6' :(op == 6)=false:=by simpa using k6
             obtain ⟨v,hm⟩:∃v,v=false:=⟨_,rfl⟩
      rotate_left 7
      focus
       by_cases k1:op=1
       focus
        subst k1;obtain ⟨v,hm⟩:∃v,v=false:=⟨_,rfl⟩
       rotate_left
       focus
        have k1' :(op == 1)=false:=by simpa using k1
        by_cases k2:op=2
        focus
         subst k2
         cases c30:it == 0
         focus
          obtain ⟨v,hm⟩:∃v,v=false:=⟨_,rfl⟩
         rotate_left
         focus
          cases b1
          focus
           obtain ⟨v,hm⟩:∃v,v=false:=⟨_,rfl⟩
          rotate_left
          focus
           cases b2
           focus
            obtain ⟨v,hm⟩:∃v,v=false:=⟨_,rfl⟩
           rotate_left
           focus
            obtain ⟨v,hm⟩:∃v,v=true:=⟨_,rfl⟩
        rotate_left 4
        focus
         have k2' :(op == 2)=false:=by simpa using k2
         by_cases k3:op=3
         focus
          subst k3
          cases c33:it == 0
          focus
           obtain ⟨v,hm⟩:∃v,v=false:=⟨_,rfl⟩
          rotate_left
          focus
           cases b1
           focus
            obtain ⟨v,hm⟩:∃v,v=false:=⟨_,rfl⟩
           rotate_left
           focus
            by_cases c35:(vl.toList=[])
            focus
             obtain ⟨v,hm⟩:∃v,v=true:=⟨_,rfl⟩
            rotate_left
            focus
             obtain ⟨v,hm⟩:∃v,v=false:=⟨_,rfl⟩
         rotate_left 4
         focus
          have k3' :(op == 3)=false:=by simpa using k3
          by_cases k4:op=4
          focus
           subst k4
           cases c36:it == 0
           focus
            obtain ⟨v,hm⟩:∃v,v=false:=⟨_,rfl⟩
           rotate_left
           focus
            by_cases c37:(ky.toList=[])
            focus
             cases b2
             focus
              obtain ⟨v,hm⟩:∃v,v=false:=⟨_,rfl⟩
             rotate_left
             focus
              obtain ⟨v,hm⟩:∃v,v=true:=⟨_,rfl⟩
            rotate_left 2
            focus
             obtain ⟨v,hm⟩:∃v,v=false:=⟨_,rfl⟩
          rotate_left 4
          focus
           have k4' :(op == 4)=false:=by simpa using k4
           by_cases k5:op=5
           focus
            subst k5;obtain ⟨v,hm⟩:∃v,v=false:=⟨_,rfl⟩
           rotate_left
           focus
            have k5' :(op == 5)=false:=by simpa using k5
            by_cases k6:op=6
            focus
             subst k6
             cases c39:decide (1≤it)
             focus
              obtain ⟨v,hm⟩:∃v,v=false:=⟨_,rfl⟩
             rotate_left
             focus
              cases c40:decide (it≤4096)
              focus
               obtain ⟨v,hm⟩:∃v,v=false:=⟨_,rfl⟩
              rotate_left
              focus
               by_cases c41:(ky.toList=[])
               focus
                by_cases c42:(vl.toList=[])
                focus
                 obtain ⟨v,hm⟩:∃v,v=true:=⟨_,rfl⟩
                rotate_left
                focus
                 obtain ⟨v,hm⟩:∃v,v=false:=⟨_,rfl⟩
               rotate_left 2
               focus
                obtain ⟨v,hm⟩:∃v,v=false:=⟨_,rfl⟩
            rotate_left 5
            focus
             have k6' :(op == 6)=false:=by simpa using k6
             obtain ⟨v,hm⟩:∃v,v=false:=⟨_,rfl⟩
    rotate_left 42
    focus
     obtain ⟨v,hm⟩:∃v,v=false:=⟨_,rfl⟩
   rotate_left 43
   focus
    obtain ⟨v,hm⟩:∃v,v=false:=⟨_,rfl⟩
  rotate_left 44
  focus
   obtain ⟨v,hm⟩:∃v,v=false:=⟨_,rfl⟩
 rotate_left 45
 focus
  obtain ⟨v,hm⟩:∃v,v=false:=⟨_,rfl⟩
 all_goals
  have hq:q=v:=by
   subst hm;have hq:=HQ.out;clear HQ H1 H2 HF
   first|(simp_all;done)|(simp_all [btw];done)|(simp only [qg] at*;simp_all [btw];done)|(simp only [qg] at*;simp_all;done)|(cases q;rfl;exfalso;simp only [Bool.and_eq_true,decide_eq_true_eq,btw] at*;omega)|(cases q;rfl;exfalso;simp only [Bool.and_eq_true,decide_eq_true_eq,decide_eq_false_iff_not,btw] at*;omega)|(cases q;rfl;exfalso;simp [btw] at*;omega)
  subst hm;subst hq;clear HQ
  go_in
  go_wp2_with (first|(go_at_call 77;(with_reducible refine (H1.out _ hk).mono ?_);rintro e w' ⟨rfl,rfl⟩)|(go_at_call 78;(with_reducible refine (H2.out _ hv).mono ?_);rintro e w' ⟨rfl,rfl⟩))
  go_ret
  exact ⟨aS (by first|rfl|(simp_all;done)),HF.out⟩
end Go.Proofs.YtodkhcbjpodgeaaGreat
