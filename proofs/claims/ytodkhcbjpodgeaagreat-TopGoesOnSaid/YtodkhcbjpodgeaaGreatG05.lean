/-
  The contracts of package digest (and of its reference): what Mix, mixed, Sum and Chain return, for whatever bytes.
-/
import Derived.Test.YtodkhcbjpodgeaaGreatG03
import Derived.Test.YtodkhcbjpodgeaaGreatG02
namespace Go.Proofs.YtodkhcbjpodgeaaGreat
open Go.ChangeShapes Go.WideShapes Go.ChangeAt Go.RowKit
set_option linter.unusedVariables false
set_option maxRecDepth 100000
set_option maxHeartbeats 4000000
theorem uH (h n:Int)(w:World):
  Calls Tryz.prog 132 #[.int .u64 h,.int .i64 n] w fun e w' =>e= .returned (.int .u64 (adj h n))∧w=w' :=by
 go_in
 go_wp2
 go_ret
 exact ⟨mq (aa8 h n),rfl⟩
theorem aac (l:List UInt8)(k:Nat)(h:k<l.length):l.take (k+1)=l.take k++[l[k]]:=
 List.take_succ_eq_append_getElem h
set_option maxHeartbeats 400000 in
theorem aa7 (h:Int)(A:Option Addr)(n c:Nat)(l:List UInt8)(w:World)(hl:l.length=n)(hm:n≤maxLen){B:Nat}(hr:Rd w B A (l.map bv)):
  Calls Tryz.prog 131 #[.int .u64 h,.slice A n c] w fun e w' =>e= .returned (.int .u64 (allI h l))∧w=w' :=by
 unfold maxLen at hm;obtain ⟨HL,HR⟩:=aN hl hr;clear hl hr
 go_in
 go_wp2_with fail
 go_loop [0,9] (fun t i=>∃k:Nat,k≤n∧i= .int .i64 k∧t= .int .u64 (foldI h (l.take k))) (fun _ i=>n-(intOf i).toNat)
 case atStart=>exact ⟨0,Nat.zero_le _,rfl,rfl⟩
 case round=>
  obtain ⟨k,hk,rfl,rfl⟩:=hrel
  by_cases hlt:k<n
  ·obtain ⟨b,off,rfl,_,hc⟩:=HR.out.at_ (by rw [List.length_map,HL.out];omega)
   have hck:=hc k (by rw [List.length_map,HL.out];omega);simp only [List.getElem_map] at hck;have hkl:k<l.length:=by rw [HL.out];exact hlt
   have HS:=O (aac l k hkl);have hb1:l[k].toNat<256:=l[k].toNat_lt;clear hc
   go_wp2_with (go_at_call 132;refine (uH _ _ _).mono ?_;rintro e w' ⟨rfl,rfl⟩)
   go_round
   case rel=>exact ⟨k+1,by omega,by go_num,by rw [HS.out,yZ]⟩
   case measure=>simp [intOf];omega
  ·go_wp2_with (go_at_call 132;refine (uH _ _ _).mono ?_;rintro e w' ⟨rfl,rfl⟩)
   go_ret
   refine ⟨mq ?_,rfl⟩;rw [List.take_of_length_le (by rw [HL.out];omega)];unfold allI;rw [HL.out]
theorem aia (key:Int)(A:Option Addr)(n c:Nat)(l:List UInt8)(w:World)(hl:l.length=n)(hm:n≤maxLen){B:Nat}(hr:Rd w B A (l.map bv)):
  Calls Tryz.prog 92 #[.int .i64 key,.slice A n c] w fun e w' =>e= .returned (.int .u64 (alc key l))∧w=w' :=by
 obtain ⟨HL,HR⟩:=aN hl hr;clear hl hr
 go_in
 go_wp2_with fail
 refine (uH _ _ _).mono ?_;rintro e w' ⟨rfl,rfl⟩
 go_wp2_with fail
 refine (aa7 _ _ _ _ l _ HL.out hm HR.out).mono ?_;rintro e w' ⟨rfl,rfl⟩
 go_wp2_with fail
 go_ret
 exact ⟨rfl,rfl⟩
end Go.Proofs.YtodkhcbjpodgeaaGreat
