import Derived.WalkLawsBesides
import Derived.WalkSpells
import Derived.WalkKit
import Derived.Deep.QuietTactic
import Derived.BigQuiet
import Derived.Deep.LoopGhost
import Derived.StillTailTactics
set_option linter.unusedVariables false
set_option linter.unusedSimpArgs false
namespace Go.Proofs.Ythcpdiknejblnaa.Aid
open Go.RowKit
theorem min_two (ats:Array TypeId) (ty:TypeId) (a b:Value):Builtin.min_ ats ty #[a,b]=(Builtin.min2 a b >>= fun s=>pure s):=by simp only[Builtin.min_,List.foldlM_cons,List.foldlM_nil]
theorem max_two (ats:Array TypeId) (ty:TypeId) (a b:Value):Builtin.max_ ats ty #[a,b]=(Builtin.max2 a b >>= fun s=>pure s):=by simp only[Builtin.max_,List.foldlM_cons,List.foldlM_nil]
structure Drawn (w w':World):Prop where mk::(out:∃ n,w'=w.drewN n)
theorem Drawn.refl (w:World):Drawn w w:=⟨⟨0,rfl⟩⟩
theorem Drawn.step {w w':World} (h:Drawn w w') (n:Nat):Drawn w (w'.drewN n):=by
 obtain⟨m,rfl⟩:=h
 exact⟨⟨m+n,World.drewN_drewN ..⟩⟩
theorem Drawn.trans {w w1 w2:World} (h:Drawn w w1) (k:Drawn w1 w2):Drawn w w2:=by
 obtain⟨m,rfl⟩:=k
 exact h.step m
theorem Drawn.heap {w w':World} (h:Drawn w w'):w'.heap=w.heap:=by
 obtain⟨n,rfl⟩:=h
 simp
theorem bt_ {w W W':World} (h:Below w.heap.size w W) (k:Below W.heap.size W W'):Below w.heap.size w W' :=
 h.trans ⟨k.os,k.tape,k.output,k.size,fun i hi=>k.block i (Nat.lt_of_lt_of_le hi h.size)⟩
structure As (p:Prop):Prop where mk::(out:p)
end Go.Proofs.Ythcpdiknejblnaa.Aid
