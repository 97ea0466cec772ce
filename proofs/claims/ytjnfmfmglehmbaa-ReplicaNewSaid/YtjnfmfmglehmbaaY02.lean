/-
  The words of memory that this seat's proofs use: a slice that reads as a list of values, bytes and integers as values; the seat's closed facts. The contracts of Mod and Between.
-/
import Derived.Test.YtjnfmfmglehmbaaRows
import Derived.WalkKit
import Derived.ProofKit
import Derived.OpenShut
import Derived.ShutString
import Derived.ChangeOld
import Derived.Below
import Derived.Outline
import Derived.Lib.Hide
import Derived.WalkLawsBesides
import Derived.WalkSpells
import Derived.Deep.QuietTactic
import Derived.BigQuiet
namespace Go.Proofs.Ytjnfmfmglehmbaa
open Go.ChangeShapes Go.WideShapes Go.ChangeAt Go.RowKit
set_option linter.unusedVariables false
set_option maxRecDepth 100000
set_option maxHeartbeats 16000000
section
open Go.ChangeMaps (open_string shut_string)
theorem own:ownKnob Try.prog.godebug=none:=by kernel_rfl
abbrev bv (c:UInt8):Value:= .int .u8 (c.toNat:Int)
def Rd (w:World) (B:Nat) (A:Option Addr) (xs:List Value):Prop:=
 xs=[]∨∃b off,A=some ⟨b,off,none⟩∧b<B∧∀j,(h:j<xs.length)→w.cell? ⟨b,off+j,none⟩=some xs[j]
theorem Rd.nil {w:World} {B:Nat} {A:Option Addr}:Rd w B A []:= .inl rfl
theorem Rd.at_ {w:World} {B:Nat} {A:Option Addr} {xs:List Value} (h:Rd w B A xs) (hp:0<xs.length):
  ∃b off,A=some ⟨b,off,none⟩∧b<B∧∀j,(h:j<xs.length)→w.cell? ⟨b,off+j,none⟩=some xs[j]:=by
 rcases h with rfl|h
 ·simp at hp
 ·exact h
theorem Rd.keep {w w' :World} {B:Nat} {A:Option Addr} {xs:List Value} (h:Rd w B A xs) (hk:∀p:Addr,p.block<B→w'.cell? p=w.cell? p):Rd w' B A xs:=by
 rcases h with rfl|⟨b,off,rfl,hb,hc⟩
 ·exact .inl rfl
 ·exact .inr ⟨b,off,rfl,hb,fun j hj=>(hk ⟨b,off+j,none⟩ hb).trans (hc j hj)⟩
theorem Rd.mono {w:World} {B B' :Nat} {A:Option Addr} {xs:List Value} (h:Rd w B A xs) (hB:B≤B'):Rd w B' A xs:=by
 rcases h with rfl|⟨b,off,rfl,hb,hc⟩
 ·exact .inl rfl
 ·exact .inr ⟨b,off,rfl,by omega,hc⟩
theorem Rd.below {w w' :World} {B:Nat} {A:Option Addr} {xs:List Value} (h:Rd w B A xs) (hb:Below B w w'):Rd w' B A xs:=
 h.keep fun _ hp=>hb.cell hp
theorem Rd.take {w:World} {B:Nat} {A:Option Addr} {xs:List Value} (h:Rd w B A xs) (k:Nat):Rd w B A (xs.take k):=by
 rcases h with rfl|⟨b,off,rfl,hb,hc⟩
 ·exact .inl (by simp)
 ·exact .inr ⟨b,off,rfl,hb,fun j hj=>by
   rw [List.length_take] at hj
   rw [hc j (by omega),List.getElem_take]⟩
theorem Rd.drop {w:World} {B b off:Nat} {xs:List Value} (h:Rd w B (some ⟨b,off,none⟩) xs) (i:Nat):Rd w B (some ⟨b,off+i,none⟩) (xs.drop i):=by
 rcases h with rfl|⟨b',off',he,hb,hc⟩
 ·exact .inl (by simp)
 ·injection he with he
  injection he with e1 e2
  subst e1 e2
  refine .inr ⟨b,off+i,rfl,hb,fun j hj=> ?_⟩
  rw [List.length_drop] at hj
  rw [Nat.add_assoc,hc (i+j) (by omega),List.getElem_drop]
theorem ret_int {k:IntKind} {a b:Int} (h:a=b):Ending.returned (.int k a)= .returned (.int k b):=by rw [h]
theorem ret_bool {a b:Bool} (h:a=b):Ending.returned (.bool a)= .returned (.bool b):=by rw [h]
end
section
theorem tmod_emod (v n:Int) (_hn:0<n):(v.tmod n+n) % n=v % n:=by
 rw [Int.add_emod_right]
 rcases Int.lt_or_le v 0 with h|h
 ·have e:v.tmod n= -((-v) % n):=by
   have h1:v.tmod n= -((-v).tmod n):=by rw [Int.neg_tmod,Int.neg_neg]
   rw [h1,Int.tmod_eq_emod_of_nonneg (by omega)]
  rw [e]
  have h2:v % n=(-(-v)) % n:=by rw [Int.neg_neg]
  rw [h2]
  generalize -v=u
  have:=Int.emod_add_mul_ediv u n
  have h3: -u= -(u % n)+n*(-(u / n)):=by rw [Int.mul_neg];omega
  rw [h3,Int.add_mul_emod_self_left]
 ·rw [Int.tmod_eq_emod_of_nonneg h,Int.emod_emod]
theorem mod_any (v n:Int) (w:World) (hn:0<n) (hn2:n≤4611686018427387904):
  Calls Try.prog 20 #[.int .i64 v,.int .i64 n] w fun e w' =>e= .returned (.int .i64 (v % n))∧w=w' :=by
 have hrm1:=Int.lt_tmod_of_pos v hn
 have hrm2:=Int.tmod_lt_of_pos v hn
 have hne:(n == 0)=false:=by simp;omega
 have HE:=Lib.hid (tmod_emod v n hn)
 go_enter Try.func20,Try.ntmps20
 go_wp2
 go_ret
 exact ⟨ret_int HE.out,rfl⟩
theorem between_any (v low high:Int) (w:World) (h1:low≤high) (h2: -1152921504606846976≤low) (h3:high≤1152921504606846976):
  Calls Try.prog 7 #[.int .i64 v,.int .i64 low,.int .i64 high] w fun e w' =>e= .returned (.int .i64 (low+v % (high-low+1)))∧w=w' :=by
 go_enter Try.func7,Try.ntmps7
 go_wp2_with fail
 refine (mod_any _ _ _ (by omega) (by omega)).mono ?_
 rintro e w' ⟨rfl,rfl⟩
 have b1:=Int.emod_nonneg v (b:=high-low+1) (by omega)
 have b2:=Int.emod_lt_of_pos v (b:=high-low+1) (by omega)
 go_wp2_with fail
 go_ret
 exact ⟨rfl,rfl⟩
end
end Go.Proofs.Ytjnfmfmglehmbaa
