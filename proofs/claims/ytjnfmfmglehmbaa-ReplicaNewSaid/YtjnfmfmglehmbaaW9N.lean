/-
  The walk of ReplicaNew.
-/
import Derived.Test.YtjnfmfmglehmbaaY21
import Derived.Test.YtjnfmfmglehmbaaY19
import Derived.Test.YtjnfmfmglehmbaaY16
namespace Go.Proofs.Ytjnfmfmglehmbaa
open Go.ChangeShapes Go.WideShapes Go.ChangeAt Go.RowKit
set_option linter.unusedVariables false
set_option maxRecDepth 100000
set_option maxHeartbeats 16000000
set_option maxRecDepth 100000 in
set_option maxHeartbeats 8000000 in
theorem ReplicaNew_walk (a0 a1:Int) (w:World) (w0:(Lit.int .i64 a0).wf=true) (w1:(Lit.int .i64 a1).wf=true):
  Calls Try.prog 3 #[.int .i64 a0,.int .i64 a1] w fun e w' =>e= .returned (.bool true)∧Below w.heap.size w w' :=by
 clear w0 w1
 go_enter Try.func3,Try.ntmps3
 go_wp2_with fail
 go_loopw [0,1,5] (fun x y i wr=>∃k:Nat,k≤2∧i= .int .i64 k∧(∃a b:Int,x= .int .i64 a∧y= .int .i64 b)∧Fr No w wr) (fun _ _ i _=>2-(intOf i).toNat)
 case atStart=>exact ⟨0,Nat.zero_le _,rfl,⟨a0,a1,rfl,rfl⟩,Fr.refl _ _⟩
 case round=>
  obtain ⟨k,hk,rfl,⟨x,y,rfl,rfl⟩,hf⟩:=hrel
  have HF:=Lib.hid hf
  clear hf
  by_cases hlt:k<2
  case neg=>
   have b2:decide (k<2)=false:=decide_eq_false hlt
   have b3:decide ((k:Int)<2)=false:=decide_eq_false (by omega)
   go_wp2_with fail
   refine (awake9_any _).mono ?_
   rintro e w4 ⟨rfl,f4⟩
   have F4:=Lib.hid (HF.out.transNo f4)
   clear f4
   go_wp2_with fail
   go_ret
   exact ⟨ret_bool rfl,F4.out.belowNo⟩
  have b2:decide (k<2)=true:=decide_eq_true hlt
  have b3:decide ((k:Int)<2)=true:=decide_eq_true (by omega)
  by_cases hn:y=1∨y=3∨y=5
  ·obtain ⟨N,rfl⟩:∃N:Nat,y=N:=⟨y.toNat,by omega⟩
   by_cases hi:x<0∨(N:Int)≤x
   ·have hp:=fun W=>p_new_bad2 x N W (by omega) (by omega) hi
    have hr:=fun W=>rp_new_no2 x N W (by omega) (by omega) hi
    clear hn hi
    have HP:=Lib.hid hp
    have HR:=Lib.hid hr
    clear hp hr
    go_wp2_with fail
    refine (HP.out _).mono ?_
    rintro e w' ⟨rfl,rfl⟩
    go_wp2_with fail
    refine (HR.out _).mono ?_
    rintro e w' ⟨rfl,rfl⟩
    go_wp2_with fail
    refine (between_any _ _ _ _ (by omega) (by omega) (by omega)).mono ?_
    rintro e w' ⟨rfl,rfl⟩
    go_wp2_with fail
    refine (between_any _ _ _ _ (by omega) (by omega) (by omega)).mono ?_
    rintro e w' ⟨rfl,rfl⟩
    go_wp2_with fail
    go_roundw
    case rel=>exact ⟨k+1,by omega,by go_num,⟨_,_,rfl,rfl⟩,HF.out⟩
    case measure=>simp [intOf];omega
   ·obtain ⟨I,rfl⟩:∃I:Nat,x=I:=⟨x.toNat,by omega⟩
    have hp:=fun W=>p_new I N W (by omega) (by omega) (by omega)
    have hr:=fun W=>rr_new I N W (by omega) (by omega) (by omega)
    clear hn hi
    have HP:=Lib.hid hp
    have HR:=Lib.hid hr
    clear hp hr
    go_wp2_with fail
    refine (HP.out _).mono ?_
    rintro e w3 ⟨p,F,rfl,a3,n3,f3⟩
    have A3:=Lib.hid a3
    have N3:=Lib.hid n3
    have F3:=Lib.hid f3
    clear a3 n3 f3
    go_wp2_with fail
    refine (HR.out _).mono ?_
    rintro e w4 ⟨q,G,rfl,a4,n4,f4⟩
    have hs:=same9_any (A3.out.frNo f4) a4
    have F4:=Lib.hid ((HF.out.transNo F3.out).transNo f4)
    clear a4 n4 f4 A3 N3 F3 HP HR
    have HS:=Lib.hid hs
    clear hs
    go_wp2_with fail
    refine HS.out.mono ?_
    rintro e w5 ⟨rfl,f5⟩
    have F5:=Lib.hid (F4.out.transNo f5)
    clear f5 F4 HS
    go_wp2_with fail
    refine (between_any _ _ _ _ (by omega) (by omega) (by omega)).mono ?_
    rintro e w' ⟨rfl,rfl⟩
    go_wp2_with fail
    refine (between_any _ _ _ _ (by omega) (by omega) (by omega)).mono ?_
    rintro e w' ⟨rfl,rfl⟩
    go_wp2_with fail
    go_roundw
    case rel=>exact ⟨k+1,by omega,by go_num,⟨_,_,rfl,rfl⟩,F5.out⟩
    case measure=>simp [intOf];omega
  ·have hp:=fun W=>p_new_bad x y W hn
   have hr:=fun W=>rp_new_no x y W hn
   clear hn
   have HP:=Lib.hid hp
   have HR:=Lib.hid hr
   clear hp hr
   go_wp2_with fail
   refine (HP.out _).mono ?_
   rintro e w' ⟨rfl,rfl⟩
   go_wp2_with fail
   refine (HR.out _).mono ?_
   rintro e w' ⟨rfl,rfl⟩
   go_wp2_with fail
   refine (between_any _ _ _ _ (by omega) (by omega) (by omega)).mono ?_
   rintro e w' ⟨rfl,rfl⟩
   go_wp2_with fail
   refine (between_any _ _ _ _ (by omega) (by omega) (by omega)).mono ?_
   rintro e w' ⟨rfl,rfl⟩
   go_wp2_with fail
   go_roundw
   case rel=>exact ⟨k+1,by omega,by go_num,⟨_,_,rfl,rfl⟩,HF.out⟩
   case measure=>simp [intOf];omega
end Go.Proofs.Ytjnfmfmglehmbaa
