/-
  The contracts of the reference's disk, and of both disks' Copy.
-/
import Derived.Test.YtjnfmfmglehmbaaY06
import Derived.Deep.RegionHeld3
import Derived.IntWalk
namespace Go.Proofs.Ytjnfmfmglehmbaa
open Go.ChangeShapes Go.WideShapes Go.ChangeAt Go.RowKit
set_option linter.unusedVariables false
set_option maxRecDepth 100000
set_option maxHeartbeats 16000000
def DskAt (T:TypeId) (w:World) (F:Nat→Prop) (d:Nat) (xs:List UInt8) (k:Nat):Prop:=
 ∃v,Blk w d T #[v,.int .i64 (k:Int)]∧F d∧Own w F 5 v (xs.map bv)∧k≤xs.length∧xs.length≤140737488355328∧∀i,F i→i<w.heap.size
def DskTo (T:TypeId) (w:World) (F:Nat→Prop) (d:Nat) (xs:List UInt8) (k:Nat) (w' :World):Prop:=
 ∃F',DskAt T w' F' d xs k∧(∀i,F' i→F i∨w.heap.size≤i)∧Fr F w w'
abbrev TRDisk:TypeId:=81
section
variable {T:TypeId} {w w' :World} {F G:Nat→Prop} {d:Nat} {xs:List UInt8} {k:Nat}
theorem DskAt.fr (h:DskAt T w F d xs k) (hf:Fr G w w') (hd:∀i,F i→¬G i):DskAt T w' F d xs k:=by
 obtain ⟨v,h1,h2,h3,h4,h5,h6⟩:=h
 exact ⟨v,h1.fr hf (hd d h2),h2,h3.fr hf hd,h4,h5,fun i hi=>Nat.lt_of_lt_of_le (h6 i hi) hf.size⟩
theorem DskAt.frNo (h:DskAt T w F d xs k) (hf:Fr No w w'):DskAt T w' F d xs k:=h.fr hf fun _ _ hi=>hi
theorem DskAt.lt (h:DskAt T w F d xs k):∀i,F i→i<w.heap.size:=by
 obtain ⟨v,h1,h2,h3,h4,h5,h6⟩:=h
 exact h6
theorem DskAt.has (h:DskAt T w F d xs k):F d:=by
 obtain ⟨v,h1,h2,h3,h4,h5,h6⟩:=h
 exact h2
theorem DskAt.open_ (h:DskAt T w F d xs k):
  ∃A c,Blk w d T #[.slice A xs.length c,.int .i64 (k:Int)]∧F d∧Own w F 5 (.slice A xs.length c) (xs.map bv)∧k≤xs.length∧xs.length≤140737488355328∧
   w.cell? ⟨d,0,none⟩=some (.slice A xs.length c)∧w.cell? ⟨d,1,none⟩=some (.int .i64 (k:Int))∧w.frozen? ⟨d,0,none⟩=false∧w.frozen? ⟨d,1,none⟩=false∧(A=none→xs.length=0)∧xs.length≤c:=by
 obtain ⟨v,h1,h2,h3,h4,h5,h6⟩:=h
 obtain ⟨A,c,rfl,hn⟩:=h3.form
 rw [List.length_map] at h1 h3 hn
 exact ⟨A,c,h1,h2,h3,h4,h5,h1.cell 0,h1.cell 1,h1.frozen 0,h1.frozen 1,hn,h3.cap.1⟩
end
theorem rdisk_new (w:World):
  Calls Try.prog 25 #[] w fun e w' =>e= .returned (.pointer (some ⟨w.heap.size,0,none⟩))∧DskAt TRDisk w' (fun i=>i=w.heap.size) w.heap.size [] 0∧Fr No w w' :=by
 go_enter Try.func25,Try.ntmps25
 go_wp2
 go_ret
 refine ⟨rfl,⟨.slice none 0 0,Blk.new _ _ _,rfl,Own.nil _ _ _,Nat.le_refl _,by simp,?_⟩,(Fr.refl _ _).alloc _⟩
 intro i hi
 subst hi
 simp
end Go.Proofs.Ytjnfmfmglehmbaa
