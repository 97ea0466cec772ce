/-
  The contracts of package digest (and of its reference): what Mix, mixed, Sum and Chain return, for whatever bytes.
-/
import Derived.Test.YtjnfmfmglehmbaaY02
import Derived.Test.YtjnfmfmglehmbaaY01
namespace Go.Proofs.Ytjnfmfmglehmbaa
open Go.ChangeShapes Go.WideShapes Go.ChangeAt Go.RowKit
set_option linter.unusedVariables false
set_option maxRecDepth 100000
set_option maxHeartbeats 16000000
theorem mix_any (h n:Int) (w:World):
  Calls Try.prog 60 #[.int .u64 h,.int .i64 n] w fun e w' =>e= .returned (.int .u64 (mixI h n))∧w=w' :=by
 go_enter Try.func60,Try.ntmps60
 go_wp2
 go_ret
 exact ⟨ret_int (mix_spelt h n),rfl⟩
theorem take_snoc (l:List UInt8) (k:Nat) (h:k<l.length):l.take (k+1)=l.take k++[l[k]]:=
 List.take_succ_eq_append_getElem h
set_option maxHeartbeats 400000 in
theorem mixed_any (h:Int) (A:Option Addr) (n c:Nat) (l:List UInt8) (w:World) (hl:l.length=n) (hm:n≤maxLen) {B:Nat} (hr:Rd w B A (l.map bv)):
  Calls Try.prog 59 #[.int .u64 h,.slice A n c] w fun e w' =>e= .returned (.int .u64 (allI h l))∧w=w' :=by
 unfold maxLen at hm
 have HL:=Lib.hid hl
 have HR:=Lib.hid hr
 clear hl hr
 go_enter Try.func59,Try.ntmps59
 go_wp2_with fail
 go_loop [0,9] (fun t i=>∃k:Nat,k≤n∧i= .int .i64 k∧t= .int .u64 (foldI h (l.take k))) (fun _ i=>n-(intOf i).toNat)
 case atStart=>exact ⟨0,Nat.zero_le _,rfl,rfl⟩
 case round=>
  obtain ⟨k,hk,rfl,rfl⟩:=hrel
  by_cases hlt:k<n
  ·obtain ⟨b,off,rfl,_,hc⟩:=HR.out.at_ (by rw [List.length_map,HL.out];omega)
   have hck:=hc k (by rw [List.length_map,HL.out];omega)
   simp only [List.getElem_map] at hck
   have hkl:k<l.length:=by rw [HL.out];exact hlt
   have HS:=Lib.hid (take_snoc l k hkl)
   have hb1:l[k].toNat<256:=l[k].toNat_lt
   clear hc
   go_wp2_with (go_at_call 60;refine (mix_any _ _ _).mono ?_;rintro e w' ⟨rfl,rfl⟩)
   go_round
   case rel=>exact ⟨k+1,by omega,by go_num,by rw [HS.out,foldI_snoc]⟩
   case measure=>simp [intOf];omega
  ·go_wp2_with (go_at_call 60;refine (mix_any _ _ _).mono ?_;rintro e w' ⟨rfl,rfl⟩)
   go_ret
   refine ⟨ret_int ?_,rfl⟩
   rw [List.take_of_length_le (by rw [HL.out];omega)]
   unfold allI
   rw [HL.out]
theorem sum_any (key:Int) (A:Option Addr) (n c:Nat) (l:List UInt8) (w:World) (hl:l.length=n) (hm:n≤maxLen) {B:Nat} (hr:Rd w B A (l.map bv)):
  Calls Try.prog 54 #[.int .i64 key,.slice A n c] w fun e w' =>e= .returned (.int .u64 (sumI key l))∧w=w' :=by
 have HL:=Lib.hid hl
 have HR:=Lib.hid hr
 clear hl hr
 go_enter Try.func54,Try.ntmps54
 go_wp2_with fail
 refine (mix_any _ _ _).mono ?_
 rintro e w' ⟨rfl,rfl⟩
 go_wp2_with fail
 refine (mixed_any _ _ _ _ l _ HL.out hm HR.out).mono ?_
 rintro e w' ⟨rfl,rfl⟩
 go_wp2_with fail
 go_ret
 exact ⟨rfl,rfl⟩
end Go.Proofs.Ytjnfmfmglehmbaa
