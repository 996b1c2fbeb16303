import Derived.Test.YtkffhgiiejbnaaaGreatQRF21
import Derived.Test.YtkffhgiiejbnaaaGreatQRefT
import Derived.Test.YtkffhgiiejbnaaaGreatQEncG
import Derived.Test.YtkffhgiiejbnaaaGreatQ03
import Derived.Test.YtkffhgiiejbnaaaGreatQRefP
set_option maxHeartbeats 400000
set_option linter.unusedVariables false
set_option linter.unusedSimpArgs false
namespace Go.Proofs.YtkffhgiiejbnaaaGreat.Rt
open Go.RowKit YtkffhgiiejbnaaaGreatW.PrintWords YtkffhgiiejbnaaaGreatW.PrintLast YtkffhgiiejbnaaaGreatW.PrintMore Rf Aid Mp Hp Tk Vc Ch En
def Ev {α:Type} (g:Nat->Option α) (r:α):Prop:=∃ k0,∀ k,k0≤k->g k=some r
theorem Ev.step {α:Type} {g g':Nat->Option α} {r:α} (h:∀ k,g (k+1)=g' k) (H:Ev g' r):Ev g r:=by
 obtain⟨k0,hk⟩:=H
 refine⟨k0+1,fun k hle=>?_⟩
 obtain⟨m,rfl⟩:∃ m,k=m+1:=⟨k-1,Z1⟩
 rw[h,hk m (Z1)]
theorem Ev.bind {α β:Type} {g:Nat->Option α} {h:Nat->α->Option β} {a:α} {r:β} (H:Ev g a) (K:Ev (fun k=>h k a) r):Ev (fun k=>(g k).bind (h k)) r:=by
 obtain⟨k0,h0⟩:=H
 obtain⟨k1,h1⟩:=K
 exact⟨max k0 k1,fun k hk=>by show (g k).bind (h k)=_;rw[h0 k (Z1)];exact h1 k (Z1)⟩
theorem Ev.done {α:Type} {r:α}:Ev (fun _=>some r) r:=⟨0,fun _ _=>rfl⟩
end Go.Proofs.YtkffhgiiejbnaaaGreat.Rt
namespace Go.Proofs.YtkffhgiiejbnaaaGreat.Rt
open Go.RowKit YtkffhgiiejbnaaaGreatW.PrintWords YtkffhgiiejbnaaaGreatW.PrintLast YtkffhgiiejbnaaaGreatW.PrintMore Rf Aid Mp Hp Tk Vc Ch En Bn
def addE (c:Bool) (G:List (List Int)) (x:Int):List (List Int):=if c=true then G++[[x]] else G.set (G.length-1) (G.getD (G.length-1) []++[x])
end Go.Proofs.YtkffhgiiejbnaaaGreat.Rt
