/-
  The words of memory that this seat's proofs use: a slice that reads as a list of values, bytes and integers as values; the seat's closed facts.
-/
import Derived.Test.YtodkhcbjpodgeaaGreatRows
import Derived.WalkKit
import Derived.ProofKit
import Derived.OpenShut
import Derived.ShutString
import Derived.ChangeOld
import Derived.Below
import Derived.Outline
import Derived.Lib.Hide
import Derived.WalkLawsBesides
import Derived.WalkSpells
import Derived.Deep.QuietTactic
import Derived.BigQuiet
namespace Go.Proofs.YtodkhcbjpodgeaaGreat
open Go.ChangeShapes Go.WideShapes Go.ChangeAt Go.RowKit
set_option linter.unusedVariables false
set_option maxRecDepth 100000
set_option maxHeartbeats 4000000
section
open Go.ChangeMaps (open_string shut_string)
theorem own:ownKnob Tryz.prog.godebug=none:=by kernel_rfl
abbrev bv (c:UInt8):Value:= .int .u8 (c.toNat:Int)
def Rd (w:World)(B:Nat)(A:Option Addr)(xs:List Value):Prop:=
 xs=[]∨∃b off,A=some ⟨b,off,none⟩∧b<B∧∀j,(h:j<xs.length)→w.cell? ⟨b,off+j,none⟩=some xs[j]
theorem Rd.at_ {w:World}{B:Nat}{A:Option Addr}{xs:List Value}(h:Rd w B A xs)(hp:0<xs.length):
  ∃b off,A=some ⟨b,off,none⟩∧b<B∧∀j,(h:j<xs.length)→w.cell? ⟨b,off+j,none⟩=some xs[j]:=by
 rcases h with rfl|h
 ·simp at hp
 ·exact h
theorem Rd.keep {w w' :World}{B:Nat}{A:Option Addr}{xs:List Value}(h:Rd w B A xs)(hk:∀p:Addr,p.block<B→w'.cell? p=w.cell? p):Rd w' B A xs:=by
 rcases h with rfl|⟨b,off,rfl,hb,hc⟩
 ·exact .inl rfl
 ·exact .inr ⟨b,off,rfl,hb,fun j hj=>(hk ⟨b,off+j,none⟩ hb).trans (hc j hj)⟩
theorem Rd.mono {w:World}{B B' :Nat}{A:Option Addr}{xs:List Value}(h:Rd w B A xs)(hB:B≤B'):Rd w B' A xs:=by
 rcases h with rfl|⟨b,off,rfl,hb,hc⟩
 ·exact .inl rfl
 ·exact .inr ⟨b,off,rfl,by omega,hc⟩
theorem Rd.below {w w' :World}{B:Nat}{A:Option Addr}{xs:List Value}(h:Rd w B A xs)(hb:Below B w w'):Rd w' B A xs:=
 h.keep fun _ hp=>hb.cell hp
theorem Rd.drop {w:World}{B b off:Nat}{xs:List Value}(h:Rd w B (some ⟨b,off,none⟩) xs)(i:Nat):Rd w B (some ⟨b,off+i,none⟩) (xs.drop i):=by
 rcases h with rfl|⟨b',off',he,hb,hc⟩
 ·exact .inl (by simp)
 ·injection he with he
  injection he with e1 e2;subst e1 e2;refine .inr ⟨b,off+i,rfl,hb,fun j hj=> ?_⟩;rw [List.length_drop] at hj;rw [Nat.add_assoc,hc (i+j) (by omega),List.getElem_drop]
theorem mq {k:IntKind}{a b:Int}(h:a=b):Ending.returned (.int k a)= .returned (.int k b):=by rw [h]
theorem aS {a b:Bool}(h:a=b):Ending.returned (.bool a)= .returned (.bool b):=by rw [h]
theorem O {p:Prop}(h:p):Go.RowKit.Hid p:=Go.Lib.hid h
theorem oy {p:Prop}(h:p:=by omega):p:=h
theorem dcd {p:Prop}(h:p:=by decide):p:=h
theorem mxl {p:Prop}(h:p:=by unfold maxLen;omega):p:=h
theorem dtt {p:Prop}[Decidable p](h:p:=by omega):decide p=true:=decide_eq_true h
theorem dff {p:Prop}[Decidable p](h:¬p:=by omega):decide p=false:=decide_eq_false h
theorem nll {a b c:Nat}(h:a<b)(k:b≤c):a<c:=Nat.lt_of_lt_of_le h k
section
open Lib (hid)
theorem aN {p0 p1:Prop}(h0:p0)(h1:p1):Go.RowKit.Hid p0∧Go.RowKit.Hid p1:=⟨hid h0,hid h1⟩
theorem bC {p0 p1 p2:Prop}(h0:p0)(h1:p1)(h2:p2):Go.RowKit.Hid p0∧Go.RowKit.Hid p1∧Go.RowKit.Hid p2:=⟨hid h0,hid h1,hid h2⟩
theorem fV {p0 p1 p2 p3:Prop}(h0:p0)(h1:p1)(h2:p2)(h3:p3):Go.RowKit.Hid p0∧Go.RowKit.Hid p1∧Go.RowKit.Hid p2∧Go.RowKit.Hid p3:=⟨hid h0,hid h1,hid h2,hid h3⟩
theorem jq {p0 p1 p2 p3 p4:Prop}(h0:p0)(h1:p1)(h2:p2)(h3:p3)(h4:p4):Go.RowKit.Hid p0∧Go.RowKit.Hid p1∧Go.RowKit.Hid p2∧Go.RowKit.Hid p3∧Go.RowKit.Hid p4:=⟨hid h0,hid h1,hid h2,hid h3,hid h4⟩
theorem oK {p0 p1 p2 p3 p4 p5:Prop}(h0:p0)(h1:p1)(h2:p2)(h3:p3)(h4:p4)(h5:p5):Go.RowKit.Hid p0∧Go.RowKit.Hid p1∧Go.RowKit.Hid p2∧Go.RowKit.Hid p3∧Go.RowKit.Hid p4∧Go.RowKit.Hid p5:=⟨hid h0,hid h1,hid h2,hid h3,hid h4,hid h5⟩
theorem jo {p0 p1 p2 p3 p4 p5 p6:Prop}(h0:p0)(h1:p1)(h2:p2)(h3:p3)(h4:p4)(h5:p5)(h6:p6):Go.RowKit.Hid p0∧Go.RowKit.Hid p1∧Go.RowKit.Hid p2∧Go.RowKit.Hid p3∧Go.RowKit.Hid p4∧Go.RowKit.Hid p5∧Go.RowKit.Hid p6:=⟨hid h0,hid h1,hid h2,hid h3,hid h4,hid h5,hid h6⟩
theorem aou {p0 p1 p2 p3 p4 p5 p6 p7:Prop}(h0:p0)(h1:p1)(h2:p2)(h3:p3)(h4:p4)(h5:p5)(h6:p6)(h7:p7):Go.RowKit.Hid p0∧Go.RowKit.Hid p1∧Go.RowKit.Hid p2∧Go.RowKit.Hid p3∧Go.RowKit.Hid p4∧Go.RowKit.Hid p5∧Go.RowKit.Hid p6∧Go.RowKit.Hid p7:=⟨hid h0,hid h1,hid h2,hid h3,hid h4,hid h5,hid h6,hid h7⟩
theorem akp {p0 p1 p2 p3 p4 p5 p6 p7 p8:Prop}(h0:p0)(h1:p1)(h2:p2)(h3:p3)(h4:p4)(h5:p5)(h6:p6)(h7:p7)(h8:p8):Go.RowKit.Hid p0∧Go.RowKit.Hid p1∧Go.RowKit.Hid p2∧Go.RowKit.Hid p3∧Go.RowKit.Hid p4∧Go.RowKit.Hid p5∧Go.RowKit.Hid p6∧Go.RowKit.Hid p7∧Go.RowKit.Hid p8:=⟨hid h0,hid h1,hid h2,hid h3,hid h4,hid h5,hid h6,hid h7,hid h8⟩
theorem yU {p0 p1 p2 p3 p4 p5 p6 p7 p8 p9:Prop}(h0:p0)(h1:p1)(h2:p2)(h3:p3)(h4:p4)(h5:p5)(h6:p6)(h7:p7)(h8:p8)(h9:p9):Go.RowKit.Hid p0∧Go.RowKit.Hid p1∧Go.RowKit.Hid p2∧Go.RowKit.Hid p3∧Go.RowKit.Hid p4∧Go.RowKit.Hid p5∧Go.RowKit.Hid p6∧Go.RowKit.Hid p7∧Go.RowKit.Hid p8∧Go.RowKit.Hid p9:=⟨hid h0,hid h1,hid h2,hid h3,hid h4,hid h5,hid h6,hid h7,hid h8,hid h9⟩
theorem kP {p0 p1 p2 p3 p4 p5 p6 p7 p8 p9 p10:Prop}(h0:p0)(h1:p1)(h2:p2)(h3:p3)(h4:p4)(h5:p5)(h6:p6)(h7:p7)(h8:p8)(h9:p9)(h10:p10):Go.RowKit.Hid p0∧Go.RowKit.Hid p1∧Go.RowKit.Hid p2∧Go.RowKit.Hid p3∧Go.RowKit.Hid p4∧Go.RowKit.Hid p5∧Go.RowKit.Hid p6∧Go.RowKit.Hid p7∧Go.RowKit.Hid p8∧Go.RowKit.Hid p9∧Go.RowKit.Hid p10:=⟨hid h0,hid h1,hid h2,hid h3,hid h4,hid h5,hid h6,hid h7,hid h8,hid h9,hid h10⟩
theorem nS {p0 p1 p2 p3 p4 p5 p6 p7 p8 p9 p10 p11:Prop}(h0:p0)(h1:p1)(h2:p2)(h3:p3)(h4:p4)(h5:p5)(h6:p6)(h7:p7)(h8:p8)(h9:p9)(h10:p10)(h11:p11):Go.RowKit.Hid p0∧Go.RowKit.Hid p1∧Go.RowKit.Hid p2∧Go.RowKit.Hid p3∧Go.RowKit.Hid p4∧Go.RowKit.Hid p5∧Go.RowKit.Hid p6∧Go.RowKit.Hid p7∧Go.RowKit.Hid p8∧Go.RowKit.Hid p9∧Go.RowKit.Hid p10∧Go.RowKit.Hid p11:=⟨hid h0,hid h1,hid h2,hid h3,hid h4,hid h5,hid h6,hid h7,hid h8,hid h9,hid h10,hid h11⟩
end
end
theorem zY (v n:Int)(_hn:0<n):(v.tmod n+n) % n=v % n:=by
 rw [Int.add_emod_right]
 rcases Int.lt_or_le v 0 with h|h
 ·have e:v.tmod n= -((-v) % n):=by
   have h1:v.tmod n= -((-v).tmod n):=by rw [Int.neg_tmod,Int.neg_neg]
   rw [h1,Int.tmod_eq_emod_of_nonneg oy]
  rw [e];have h2:v % n=(-(-v)) % n:=by rw [Int.neg_neg]
  rw [h2];generalize -v=u;have:=Int.emod_add_mul_ediv u n;have h3: -u= -(u % n)+n*(-(u / n)):=by rw [Int.mul_neg];omega
  rw [h3,Int.add_mul_emod_self_left]
 ·rw [Int.tmod_eq_emod_of_nonneg h,Int.emod_emod]
theorem dR (v n:Int)(w:World)(hn:0<n)(hn2:n≤4611686018427387904):
  Calls Tryz.prog 9 #[.int .i64 v,.int .i64 n] w fun e w' =>e= .returned (.int .i64 (v % n))∧w=w' :=by
 have hrm1:=Int.lt_tmod_of_pos v hn;have aye:=Int.tmod_lt_of_pos v hn;have hne:(n == 0)=false:=by simp;omega
 have HE:=O (zY v n hn)
 go_in
 go_wp2
 go_ret
 exact ⟨mq HE.out,rfl⟩
theorem vK (v low high:Int)(w:World)(h1:low≤high)(h2: -1152921504606846976≤low)(h3:high≤1152921504606846976):
  Calls Tryz.prog 18 #[.int .i64 v,.int .i64 low,.int .i64 high] w fun e w' =>e= .returned (.int .i64 (low+v % (high-low+1)))∧w=w' :=by
 go_in
 go_wp2_with fail
 refine (dR _ _ _ oy oy).mono ?_;rintro e w' ⟨rfl,rfl⟩;have b1:=Int.emod_nonneg v (b:=high-low+1) oy;have b2:=Int.emod_lt_of_pos v (b:=high-low+1) oy
 go_wp2_with fail
 go_ret
 exact ⟨rfl,rfl⟩
end Go.Proofs.YtodkhcbjpodgeaaGreat
