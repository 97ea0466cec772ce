/-
  Equality of entries, entries that came in, entries with one field changed.
-/
import Derived.Test.YtjnfmfmglehmbaaY05
import Derived.Test.YtjnfmfmglehmbaaY02
import Derived.Deep.Slices
import Derived.Deep.Fields
import Derived.ChangeSame
namespace Go.Proofs.Ytjnfmfmglehmbaa
open Go.ChangeShapes Go.WideShapes Go.ChangeAt Go.RowKit
set_option linter.unusedVariables false
set_option maxRecDepth 100000
set_option maxHeartbeats 16000000
theorem int_equalIn (d:Nat) (a b:Int) (W:World):(Op.equalIn (d+1) 3 (.int .i64 a) (.int .i64 b)).run Try.prog W= .ok (a == b) W:=by
 simp [Op.equalIn,run_underlying Try.underlying3]
theorem ent_equal (e f:En) (d:Nat) (W:World):(Op.equalIn (d+1+1) TEnt e.v f.v).run Try.prog W= .ok (decide (e=f)) W:=by
 obtain ⟨k,tick,te,ce,ot,ep,fr,un,n⟩:=e
 obtain ⟨k',tick',te',ce',ot',ep',fr',un',n'⟩:=f
 have hp:Try.prog.stoodInHeld TEnt=false:=by kernel_rfl
 rw [Op.equalIn]
 simp only [En.v,Sem.run_bind,run_underlying Try.underlying45,Result.andThen_ok,run_program,hp,Bool.false_eq_true,if_false]
 have pa0:∀W:World,(part 3 #[.int .i64 k,.int .i64 tick,.int .i64 te,.int .i64 ce,.int .i64 ot,.int .i64 ep,.int .i64 fr,.int .i64 un,.int .i64 n] 0).run Try.prog W= .ok (.int .i64 k) W:=fun _=>by kernel_rfl
 have pb0:∀W:World,(part 3 #[.int .i64 k',.int .i64 tick',.int .i64 te',.int .i64 ce',.int .i64 ot',.int .i64 ep',.int .i64 fr',.int .i64 un',.int .i64 n'] 0).run Try.prog W= .ok (.int .i64 k') W:=fun _=>by kernel_rfl
 have pa1:∀W:World,(part 3 #[.int .i64 k,.int .i64 tick,.int .i64 te,.int .i64 ce,.int .i64 ot,.int .i64 ep,.int .i64 fr,.int .i64 un,.int .i64 n] 1).run Try.prog W= .ok (.int .i64 tick) W:=fun _=>by kernel_rfl
 have pb1:∀W:World,(part 3 #[.int .i64 k',.int .i64 tick',.int .i64 te',.int .i64 ce',.int .i64 ot',.int .i64 ep',.int .i64 fr',.int .i64 un',.int .i64 n'] 1).run Try.prog W= .ok (.int .i64 tick') W:=fun _=>by kernel_rfl
 have pa2:∀W:World,(part 3 #[.int .i64 k,.int .i64 tick,.int .i64 te,.int .i64 ce,.int .i64 ot,.int .i64 ep,.int .i64 fr,.int .i64 un,.int .i64 n] 2).run Try.prog W= .ok (.int .i64 te) W:=fun _=>by kernel_rfl
 have pb2:∀W:World,(part 3 #[.int .i64 k',.int .i64 tick',.int .i64 te',.int .i64 ce',.int .i64 ot',.int .i64 ep',.int .i64 fr',.int .i64 un',.int .i64 n'] 2).run Try.prog W= .ok (.int .i64 te') W:=fun _=>by kernel_rfl
 have pa3:∀W:World,(part 3 #[.int .i64 k,.int .i64 tick,.int .i64 te,.int .i64 ce,.int .i64 ot,.int .i64 ep,.int .i64 fr,.int .i64 un,.int .i64 n] 3).run Try.prog W= .ok (.int .i64 ce) W:=fun _=>by kernel_rfl
 have pb3:∀W:World,(part 3 #[.int .i64 k',.int .i64 tick',.int .i64 te',.int .i64 ce',.int .i64 ot',.int .i64 ep',.int .i64 fr',.int .i64 un',.int .i64 n'] 3).run Try.prog W= .ok (.int .i64 ce') W:=fun _=>by kernel_rfl
 have pa4:∀W:World,(part 3 #[.int .i64 k,.int .i64 tick,.int .i64 te,.int .i64 ce,.int .i64 ot,.int .i64 ep,.int .i64 fr,.int .i64 un,.int .i64 n] 4).run Try.prog W= .ok (.int .i64 ot) W:=fun _=>by kernel_rfl
 have pb4:∀W:World,(part 3 #[.int .i64 k',.int .i64 tick',.int .i64 te',.int .i64 ce',.int .i64 ot',.int .i64 ep',.int .i64 fr',.int .i64 un',.int .i64 n'] 4).run Try.prog W= .ok (.int .i64 ot') W:=fun _=>by kernel_rfl
 have pa5:∀W:World,(part 3 #[.int .i64 k,.int .i64 tick,.int .i64 te,.int .i64 ce,.int .i64 ot,.int .i64 ep,.int .i64 fr,.int .i64 un,.int .i64 n] 5).run Try.prog W= .ok (.int .i64 ep) W:=fun _=>by kernel_rfl
 have pb5:∀W:World,(part 3 #[.int .i64 k',.int .i64 tick',.int .i64 te',.int .i64 ce',.int .i64 ot',.int .i64 ep',.int .i64 fr',.int .i64 un',.int .i64 n'] 5).run Try.prog W= .ok (.int .i64 ep') W:=fun _=>by kernel_rfl
 have pa6:∀W:World,(part 3 #[.int .i64 k,.int .i64 tick,.int .i64 te,.int .i64 ce,.int .i64 ot,.int .i64 ep,.int .i64 fr,.int .i64 un,.int .i64 n] 6).run Try.prog W= .ok (.int .i64 fr) W:=fun _=>by kernel_rfl
 have pb6:∀W:World,(part 3 #[.int .i64 k',.int .i64 tick',.int .i64 te',.int .i64 ce',.int .i64 ot',.int .i64 ep',.int .i64 fr',.int .i64 un',.int .i64 n'] 6).run Try.prog W= .ok (.int .i64 fr') W:=fun _=>by kernel_rfl
 have pa7:∀W:World,(part 3 #[.int .i64 k,.int .i64 tick,.int .i64 te,.int .i64 ce,.int .i64 ot,.int .i64 ep,.int .i64 fr,.int .i64 un,.int .i64 n] 7).run Try.prog W= .ok (.int .i64 un) W:=fun _=>by kernel_rfl
 have pb7:∀W:World,(part 3 #[.int .i64 k',.int .i64 tick',.int .i64 te',.int .i64 ce',.int .i64 ot',.int .i64 ep',.int .i64 fr',.int .i64 un',.int .i64 n'] 7).run Try.prog W= .ok (.int .i64 un') W:=fun _=>by kernel_rfl
 have pa8:∀W:World,(part 3 #[.int .i64 k,.int .i64 tick,.int .i64 te,.int .i64 ce,.int .i64 ot,.int .i64 ep,.int .i64 fr,.int .i64 un,.int .i64 n] 8).run Try.prog W= .ok (.int .i64 n) W:=fun _=>by kernel_rfl
 have pb8:∀W:World,(part 3 #[.int .i64 k',.int .i64 tick',.int .i64 te',.int .i64 ce',.int .i64 ot',.int .i64 ep',.int .i64 fr',.int .i64 un',.int .i64 n'] 8).run Try.prog W= .ok (.int .i64 n') W:=fun _=>by kernel_rfl
 rw [←Array.forIn_toList]
 simp only [List.forIn_cons,List.forIn_nil,ne_eq,String.reduceEq,not_false_eq_true,if_true,Sem.run_bind,Result.andThen_ok,int_equalIn,pa0,pb0]
 by_cases h0:k=k'
 case neg=>simp [h0]
 subst h0
 simp only [beq_self_eq_true,Bool.not_true,Bool.false_eq_true,if_false,Sem.run_pure,Result.andThen_ok]
 simp only [Sem.run_bind,pa1,pb1,Result.andThen_ok,int_equalIn]
 by_cases h1:tick=tick'
 case neg=>simp [h1]
 subst h1
 simp only [beq_self_eq_true,Bool.not_true,Bool.false_eq_true,if_false,Sem.run_pure,Result.andThen_ok]
 simp only [Sem.run_bind,pa2,pb2,Result.andThen_ok,int_equalIn]
 by_cases h2:te=te'
 case neg=>simp [h2]
 subst h2
 simp only [beq_self_eq_true,Bool.not_true,Bool.false_eq_true,if_false,Sem.run_pure,Result.andThen_ok]
 simp only [Sem.run_bind,pa3,pb3,Result.andThen_ok,int_equalIn]
 by_cases h3:ce=ce'
 case neg=>simp [h3]
 subst h3
 simp only [beq_self_eq_true,Bool.not_true,Bool.false_eq_true,if_false,Sem.run_pure,Result.andThen_ok]
 simp only [Sem.run_bind,pa4,pb4,Result.andThen_ok,int_equalIn]
 by_cases h4:ot=ot'
 case neg=>simp [h4]
 subst h4
 simp only [beq_self_eq_true,Bool.not_true,Bool.false_eq_true,if_false,Sem.run_pure,Result.andThen_ok]
 simp only [Sem.run_bind,pa5,pb5,Result.andThen_ok,int_equalIn]
 by_cases h5:ep=ep'
 case neg=>simp [h5]
 subst h5
 simp only [beq_self_eq_true,Bool.not_true,Bool.false_eq_true,if_false,Sem.run_pure,Result.andThen_ok]
 simp only [Sem.run_bind,pa6,pb6,Result.andThen_ok,int_equalIn]
 by_cases h6:fr=fr'
 case neg=>simp [h6]
 subst h6
 simp only [beq_self_eq_true,Bool.not_true,Bool.false_eq_true,if_false,Sem.run_pure,Result.andThen_ok]
 simp only [Sem.run_bind,pa7,pb7,Result.andThen_ok,int_equalIn]
 by_cases h7:un=un'
 case neg=>simp [h7]
 subst h7
 simp only [beq_self_eq_true,Bool.not_true,Bool.false_eq_true,if_false,Sem.run_pure,Result.andThen_ok]
 simp only [Sem.run_bind,pa8,pb8,Result.andThen_ok,int_equalIn]
 by_cases h8:n=n'
 case neg=>simp [h8]
 subst h8
 simp only [beq_self_eq_true,Bool.not_true,Bool.false_eq_true,if_false,Sem.run_pure,Result.andThen_ok]
 simp
end Go.Proofs.Ytjnfmfmglehmbaa
