/-
  Equality of entries of a log. The contract of SameLogged; the log of a replica.
-/
import Derived.Test.YtjnfmfmglehmbaaY15
import Derived.Test.YtjnfmfmglehmbaaY09
import Derived.Test.YtjnfmfmglehmbaaY16
namespace Go.Proofs.Ytjnfmfmglehmbaa
open Go.ChangeShapes Go.WideShapes Go.ChangeAt Go.RowKit
set_option linter.unusedVariables false
set_option maxRecDepth 100000
set_option maxHeartbeats 16000000
section
theorem lg_equal (x y:Lg) (d:Nat) (W:World):(Op.equalIn (d+1+1+1) TLg x.v y.v).run Try.prog W= .ok (decide (x=y)) W:=by
 obtain ⟨t,⟨k,tick,te,ce,ot,ep,fr,un,n⟩⟩:=x
 obtain ⟨t',⟨k',tick',te',ce',ot',ep',fr',un',n'⟩⟩:=y
 have hp:Try.prog.stoodInHeld TLg=false:=by kernel_rfl
 have he:=ent_equal ⟨k,tick,te,ce,ot,ep,fr,un,n⟩ ⟨k',tick',te',ce',ot',ep',fr',un',n'⟩ d
 rw [Op.equalIn]
 simp only [Lg.v,Sem.run_bind,run_underlying Try.underlying47,Result.andThen_ok,run_program,hp,Bool.false_eq_true,if_false]
 have pa0:∀W:World,(part 3 #[.int .i64 t,.int .i64 k,.int .i64 tick,.int .i64 te,.int .i64 ce,.int .i64 ot,.int .i64 ep,.int .i64 fr,.int .i64 un,.int .i64 n] 0).run Try.prog W= .ok (.int .i64 t) W:=fun _=>by kernel_rfl
 have pb0:∀W:World,(part 3 #[.int .i64 t',.int .i64 k',.int .i64 tick',.int .i64 te',.int .i64 ce',.int .i64 ot',.int .i64 ep',.int .i64 fr',.int .i64 un',.int .i64 n'] 0).run Try.prog W= .ok (.int .i64 t') W:=fun _=>by kernel_rfl
 have pa1:∀W:World,(part TEnt #[.int .i64 t,.int .i64 k,.int .i64 tick,.int .i64 te,.int .i64 ce,.int .i64 ot,.int .i64 ep,.int .i64 fr,.int .i64 un,.int .i64 n] 1).run Try.prog W= .ok (En.v ⟨k,tick,te,ce,ot,ep,fr,un,n⟩) W:=fun _=>by kernel_rfl
 have pb1:∀W:World,(part TEnt #[.int .i64 t',.int .i64 k',.int .i64 tick',.int .i64 te',.int .i64 ce',.int .i64 ot',.int .i64 ep',.int .i64 fr',.int .i64 un',.int .i64 n'] 1).run Try.prog W= .ok (En.v ⟨k',tick',te',ce',ot',ep',fr',un',n'⟩) W:=fun _=>by kernel_rfl
 rw [←Array.forIn_toList]
 simp only [List.forIn_cons,List.forIn_nil,ne_eq,String.reduceEq,not_false_eq_true,if_true,Sem.run_bind,Result.andThen_ok,int_equalIn,pa0,pb0]
 by_cases h0:t=t'
 case neg=>simp [h0]
 subst h0
 simp only [beq_self_eq_true,Bool.not_true,Bool.false_eq_true,if_false,Sem.run_pure,Result.andThen_ok]
 simp only [Sem.run_bind,pa1,pb1,Result.andThen_ok,he]
 by_cases h1:(⟨k,tick,te,ce,ot,ep,fr,un,n⟩:En)=⟨k',tick',te',ce',ot',ep',fr',un',n'⟩
 case neg=>simp [h1]
 rw [h1]
 simp
theorem lg_neq (x y:Lg) (W:World):(binOp .neq TLg x.v y.v).run Try.prog W= .ok (.bool (!decide (x=y))) W:=by
 have h:=lg_equal x y 9997 W
 unfold Lg.v at*
 simp only [binOp]
 simp [Op.equal,Op.maxDepth,h]
theorem lg_eql (x y:Lg) (W:World):(binOp .eql TLg x.v y.v).run Try.prog W= .ok (.bool (decide (x=y))) W:=by
 have h:=lg_equal x y 9997 W
 unfold Lg.v at*
 simp only [binOp]
 simp [Op.equal,Op.maxDepth,h]
theorem lg_guard (op:BinOp) (x y:Operand) (a b:Array Value) (W:World):(eqGuard op TLg x y (.agg a) (.agg b)).run Try.prog W= .ok () W:=by
 have hm:Try.prog.eqGuardType Try.prog.depth TLg=false:=by kernel_rfl
 cases op<;>simp [eqGuard,run_program,hm]
end
section
section
variable {w w' :World} {F G H:Nat→Prop} {p:Nat} {r:Rs} {s:Js} {n:Nat}
theorem take_eq_succ {xs ys:List Lg} {k:Nat} {x:Lg} (h:xs.take k=ys.take k) (hx:xs[k]? =some x) (hy:ys[k]? =some x):xs.take (k+1)=ys.take (k+1):=by
 rw [List.take_add_one,List.take_add_one,h,hx,hy]
set_option maxRecDepth 100000 in
set_option maxHeartbeats 2000000 in
theorem same_logged {A B:Option Addr} {c d:Nat} {xs ys:List Lg} (hA:Ent w G (.slice A xs.length c) xs) (hB:Ent w H (.slice B ys.length d) ys):
  Calls Try.prog 18 #[.slice A xs.length c,.slice B ys.length d] w fun e w' =>e= .returned (.bool (decide (xs=ys)))∧Fr No w w' :=by
 have hM:=hA.rd.2.2.2.1
 have hM2:=hA.rd.2.2.1
 have hM3:=hB.rd.2.2.2.1
 have hM4:=hB.rd.2.2.1
 unfold maxLen at hM hM3
 have ha:=fun i hi=>hA.at_ (i:=i) hi
 have hb:=fun i hi=>hB.at_ (i:=i) hi
 by_cases hl:xs.length=ys.length
 ·have t1:(xs.length != ys.length)=false:=by simpa using hl
  have t2:((xs.length:Int) != (ys.length:Int))=false:=by simp;omega
  clear hA hB
  generalize hY:decide (xs=ys)=Y at*
  rw [←hl] at hM4 t1 t2 ⊢
  have HA:=Lib.hid ha
  have HB:=Lib.hid hb
  have HY:=Lib.hid hY
  have HL:=Lib.hid hl
  clear ha hb hY hl
  go_enter Try.func18,Try.ntmps18
  go_wp2_with fail
  go_loopw [5] (fun i wr=>∃k:Nat,k≤xs.length∧i= .int .i64 k∧xs.take k=ys.take k∧Fr No w wr) (fun i _=>xs.length-(intOf i).toNat)
  case atStart=>exact ⟨0,Nat.zero_le _,rfl,rfl,Fr.refl _ _⟩
  case round=>
   obtain ⟨k,hk,rfl,htk,hf⟩:=hrel
   by_cases hlt:k<xs.length
   ·have b1:decide (k<xs.length)=true:=by simpa using hlt
    have b2:decide ((k:Int)<(xs.length:Int))=true:=by simp;omega
    have hlt2:(k:Int)<(xs.length:Int):=by omega
    obtain ⟨b,off,x,rfl,hx,hxc⟩:=HA.out k hlt
    obtain ⟨b',off',y,rfl,hy,hyc⟩:=HB.out k (by rw [←HL.out];exact hlt)
    obtain ⟨c0,c1,c2,c3,c4,c5,c6,c7,c8,c9⟩:=hxc wr hf
    obtain ⟨d0,d1,d2,d3,d4,d5,d6,d7,d8,d9⟩:=hyc wr hf
    by_cases he:x=y
    ·subst he
     have hN:=fun W=>lg_neq x x W
     simp only [decide_true,Bool.not_true] at hN
     have hsu:=take_eq_succ htk hx hy
     obtain ⟨t,⟨kd,tick,te,ce,ot,ep,fr,un,nn⟩⟩:=x
     unfold Lg.v at hN
     simp only at*
     have hG:=fun (u v:Operand) (V:World)=>lg_guard .neq u v #[.int .i64 t,.int .i64 kd,.int .i64 tick,.int .i64 te,.int .i64 ce,.int .i64 ot,.int .i64 ep,.int .i64 fr,.int .i64 un,.int .i64 nn] #[.int .i64 t,.int .i64 kd,.int .i64 tick,.int .i64 te,.int .i64 ce,.int .i64 ot,.int .i64 ep,.int .i64 fr,.int .i64 un,.int .i64 nn] V
     clear hxc hyc hx hy htk
     have HF:=Lib.hid hf
     have HSU:=Lib.hid hsu
     clear hf hsu
     go_wp2_with fail
     go_quiet (fail)
     go_wp2_with fail
     go_roundw
     case rel=>exact ⟨k+1,by omega,by go_num,HSU.out,HF.out.drewN _⟩
     case measure=>simp [intOf];omega
    ·have hN:=fun W=>lg_neq x y W
     rw [show (decide (x=y))=false from by simpa using he] at hN
     simp only [Bool.not_false] at hN
     have hYf:false=Y:=by
      rw [←HY.out]
      symm
      rw [decide_eq_false_iff_not]
      intro hh
      rw [hh] at hx
      rw [hx] at hy
      exact he (Option.some.inj hy)
     obtain ⟨t,⟨kd,tick,te,ce,ot,ep,fr,un,nn⟩⟩:=x
     obtain ⟨t',⟨kd',tick',te',ce',ot',ep',fr',un',nn'⟩⟩:=y
     unfold Lg.v at hN
     simp only at*
     have hG:=fun (u v:Operand) (V:World)=>lg_guard .neq u v #[.int .i64 t,.int .i64 kd,.int .i64 tick,.int .i64 te,.int .i64 ce,.int .i64 ot,.int .i64 ep,.int .i64 fr,.int .i64 un,.int .i64 nn] #[.int .i64 t',.int .i64 kd',.int .i64 tick',.int .i64 te',.int .i64 ce',.int .i64 ot',.int .i64 ep',.int .i64 fr',.int .i64 un',.int .i64 nn'] V
     clear hxc hyc hx hy htk he
     have HF:=Lib.hid hf
     have HYF:=Lib.hid hYf
     clear hf hYf
     go_wp2_with fail
     go_quiet (fail)
     go_wp2_with fail
     go_ret
     exact ⟨ret_bool HYF.out,HF.out.drewN _⟩
   ·obtain rfl:k=xs.length:=by omega
    have b1:decide (xs.length<xs.length)=false:=by simp
    have hYt:true=Y:=by
     rw [←HY.out]
     symm
     rw [decide_eq_true_iff]
     have h2:=HL.out
     rw [List.take_length,h2,List.take_length] at htk
     exact htk
    clear htk
    have HF:=Lib.hid hf
    have HYT:=Lib.hid hYt
    clear hf hYt
    go_wp2_with fail
    go_ret
    exact ⟨ret_bool HYT.out,HF.out⟩
 ·have hY:decide (xs=ys)=false:=by
   rw [decide_eq_false_iff_not]
   intro hh
   exact hl (by rw [hh])
  rw [hY]
  have t1:(xs.length != ys.length)=true:=by simpa using hl
  have t2:((xs.length:Int) != (ys.length:Int))=true:=by simp;omega
  clear hY hl ha hb hA hB
  go_enter Try.func18,Try.ntmps18
  go_wp2_with fail
  go_ret
  exact ⟨rfl,Fr.refl _ _⟩
theorem p_log (h:RJ w p s n) (hl:s.log.length≤4096):Calls Try.prog 19 #[.pointer (some ⟨p,0,none⟩)] w (FromTo w s.log):=by
 have hf:Calls Try.prog 30 #[.pointer (some ⟨p,0,none⟩),.int .i64 0] w (FromTo w s.log):=p_from h hl 0 (Nat.zero_le _)
 clear h hl
 generalize s.log=l at*
 have HF:=Lib.hid hf
 clear hf
 go_enter Try.func19,Try.ntmps19
 go_wp2_with fail
 refine HF.out.mono ?_
 rintro e w1 m1
 have M:=Lib.hid m1
 obtain ⟨A,c,rfl,-⟩:=m1
 go_wp2_with fail
 go_ret
 exact M.out
end
end
end Go.Proofs.Ytjnfmfmglehmbaa
