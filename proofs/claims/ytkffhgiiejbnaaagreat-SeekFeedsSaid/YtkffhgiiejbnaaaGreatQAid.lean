import Derived.WalkLawsBesides
import Derived.WalkSpells
import Derived.WalkKit
import Derived.Deep.QuietTactic
import Derived.BigQuiet
import Derived.Deep.LoopGhost
import Derived.StillTailTactics
set_option linter.unusedVariables false
set_option linter.unusedSimpArgs false
namespace Go.Proofs.YtkffhgiiejbnaaaGreat.Aid
open Go.RowKit
def mnI (a b:Int):Int:=if b<a then b else a
def mxI (a b:Int):Int:=if a<b then b else a
theorem min2_mn (k k':IntKind) (x y:Int):Builtin.min2 (.int k x) (.int k' y)=pure (.int k (mnI x y)):=by simp only[Builtin.min2,mnI]
theorem max2_mx (k k':IntKind) (x y:Int):Builtin.max2 (.int k x) (.int k' y)=pure (.int k (mxI x y)):=by simp only[Builtin.max2,mxI]
theorem min_two (ats:Array TypeId) (ty:TypeId) (a b:Value):Builtin.min_ ats ty #[a,b]=(Builtin.min2 a b >>= fun s=>pure s):=by simp only[Builtin.min_,List.foldlM_cons,List.foldlM_nil]
theorem max_two (ats:Array TypeId) (ty:TypeId) (a b:Value):Builtin.max_ ats ty #[a,b]=(Builtin.max2 a b >>= fun s=>pure s):=by simp only[Builtin.max_,List.foldlM_cons,List.foldlM_nil]
theorem slice_to {P:Program} {t:TypeId} (hu:P.underlying t=some .string) (s:ByteArray) (i:Int) (n:Nat) (hi:i=n) (h:n≤s.size) (w:World) :
  (Instr.slice t (.string s) none (some (.int .i64 i)) none).run P w=.ok (.string (s.extract 0 n)) w:=by
 subst hi;rw[run_slice_string_to_if _ _ _ _ _ hu,if_pos (by omega)];rfl
theorem slice_from {P:Program} {t:TypeId} (hu:P.underlying t=some .string) (s:ByteArray) (i:Int) (n:Nat) (hi:i=n) (h:n≤s.size) (w:World) :
  (Instr.slice t (.string s) (some (.int .i64 i)) none none).run P w=.ok (.string (s.extract n s.size)) w:=by
 subst hi;rw[run_slice_string_from_if _ _ _ _ _ hu,if_pos (by omega)];rfl
theorem toList_nil {s:ByteArray} (h:s.size=0):s.toList=[]:=by
 rw[ByteArray.toList_eq]
 exact List.eq_nil_of_length_eq_zero (by simpa using h)
theorem toList_some {s:ByteArray} (h:0<s.size):s.toList.isEmpty=false:=by
 rw[ByteArray.toList_eq]
 cases hs:s.data.toList with
 | nil=>have h1:s.data.toList.length=s.size:=by simp
        rw[hs]at h1;simp at h1;omega
 | cons a l=>rfl
structure Drawn (w w':World):Prop where mk::(out:∃ n,w'=w.drewN n)
theorem Drawn.refl (w:World):Drawn w w:=⟨⟨0,rfl⟩⟩
theorem Drawn.step {w w':World} (h:Drawn w w') (n:Nat):Drawn w (w'.drewN n):=by
 obtain⟨m,rfl⟩:=h
 exact⟨⟨m+n,World.drewN_drewN ..⟩⟩
theorem Drawn.trans {w w1 w2:World} (h:Drawn w w1) (k:Drawn w1 w2):Drawn w w2:=by
 obtain⟨m,rfl⟩:=k
 exact h.step m
theorem Drawn.heap {w w':World} (h:Drawn w w'):w'.heap=w.heap:=by
 obtain⟨n,rfl⟩:=h
 simp
theorem bt_ {w W W':World} (h:Below w.heap.size w W) (k:Below W.heap.size W W'):Below w.heap.size w W' :=
 h.trans ⟨k.os,k.tape,k.output,k.size,fun i hi=>k.block i (Nat.lt_of_lt_of_le hi h.size)⟩
structure As (p:Prop):Prop where mk::(out:p)
end Go.Proofs.YtkffhgiiejbnaaaGreat.Aid
