import Derived.Test.YthcpdiknejblnaaQnTaP
import Derived.Test.YthcpdiknejblnaaQnTaU
import Derived.Test.YthcpdiknejblnaaQn01
set_option linter.unusedVariables false
set_option linter.unusedSimpArgs false
namespace Go.Proofs.Ythcpdiknejblnaa.Ta
open Go Go.RowKit YthcpdiknejblnaaW.PrintWords YthcpdiknejblnaaW.PrintLast YthcpdiknejblnaaW.PrintMore Rf Aid Hp
def Ev {α:Type} (g:Nat->Option α) (r:α):Prop:=∃ k0,∀ k,k0≤k->g k=some r
theorem Ev.step {α:Type} {g g':Nat->Option α} {r:α} (h:∀ k,g (k+1)=g' k) (he:Ev g' r):Ev g r:=by
 obtain⟨k0,hk⟩:=he
 refine⟨k0+1,fun k hle=>?_⟩
 obtain⟨m,rfl⟩:∃ m,k=m+1:=⟨k-1,Z0⟩
 rw[h]
 exact hk m (Z0)
end Go.Proofs.Ythcpdiknejblnaa.Ta
