import Derived.ProofKit
import Derived.OpenShut
import Derived.ShutString
import Derived.ChangeOld
import Derived.SizedLaws
import Derived.Deep.Slices
import Derived.Deep.Strs
import Derived.Lib.SmallJoins
import Derived.Test.YthcpdiknejblnaaQe01
set_option linter.unusedVariables false
set_option linter.unusedSimpArgs false
namespace Go.Proofs.Ythcpdiknejblnaa.Ra
open Go.RowKit Go.Deep Go.ChangeShapes Go.WideShapes YthcpdiknejblnaaW.PrintWords
def Opens (P:Program) {α:Type} (d:Kd α) (t:TypeId) (Q:α->Prop):Prop :=
 ∀ {H:Type} {enc:TypeId × Value->H} {w:World} {base:Nat} {held:Bool} {fuel:Nat} {cs:List Value} {x:DataW H × List MemPlace},DataW.trod enc P w base (fun _=>true) held fuel t cs=some x->∃ a,d.K w a cs/\Q a
def QInt (k:IntKind) (a:Int):Prop:=(Lit.int k a).wf=true
theorem opens_int {P:Program} {t:TypeId} {k:IntKind} (ht:P.underlying t=some (.int k)):Opens P (Kd.int k) t (QInt k):=by
 intro H enc w base held fuel cs x h
 obtain⟨a,rfl,_,hw⟩:=DataW.trod_int ht h
 exact⟨a,rfl,hw⟩
theorem opens_slice {P:Program} {α:Type} {d:Kd α} {t e:TypeId} {Q:α->Prop} (ht:P.underlying t=some (.slice e)) (hc:P.cellsOf e=d.sz) (h:Opens P d e Q):Opens P (Kd.slice e d) t (fun xs=>xs.length≤9223372036854775807/\∀ x∈xs,Q x):=by
 intro H enc w base held fuel cs x hx
 rcases open_slice ht hx with⟨rfl,_⟩|⟨a,len,cap,m,n,D,Pl,rfl,hb,hl,hm,hmm,_,hi⟩
 ·exact⟨[],⟨none,0,rfl,Nat.le_refl _,rfl,by simp,fun h=>absurd h (by simp)⟩,by simp,by simp⟩
 ·have hlm:len≤m:=by rw[hmm];simpa using hl
  by_cases h0:len=0
  ·subst h0
   exact⟨[],⟨some a,cap,rfl,Nat.zero_le _,rfl,by simp,fun h=>absurd h (by simp)⟩,by simp,by simp⟩
  ·have hone:∀ i,i<len->∃ y c,w.cells? base (a.add (i * P.cellsOf e)) (P.cellsOf e)=some c/\d.K w y c/\Q y:=fun i hlt=>by
    obtain⟨cs',h1,h2⟩:=hi i (Z0)
    obtain⟨y,h3,h4⟩:=h h2
    exact⟨y,cs',h1,h3,h4⟩
   have:Nonempty α:=let ⟨y,_⟩:=hone 0 (Z0);⟨y⟩
   have:Inhabited α:=⟨Classical.choice this⟩
   obtain⟨f,hf⟩:=choose_lt (p:=fun i y=>∃ c,w.cells? base (a.add (i * P.cellsOf e)) (P.cellsOf e)=some c/\d.K w y c/\Q y) hone
   refine⟨(List.range len).map f,⟨some a,cap,by simp,by simpa using hl,?_⟩,Z15,?_⟩
   ·refine⟨rfl,Z15,fun _=>⟨a,rfl,fun j p hj=>?_⟩⟩
    obtain⟨hjl,hjp⟩:=List.getElem?_eq_some_iff.1 hj
    simp only[List.length_map,List.length_range]at hjl
    simp only[List.getElem_map,List.getElem_range]at hjp
    obtain⟨c,h1,h2,_⟩:=hf j hjl
    subst hjp
    obtain⟨_,hlen,hcell⟩:=World.cells?_some h1
    refine⟨c,d.K_len h2,h2,fun i u hu=>?_⟩
    have hic:i<c.length:=(List.getElem?_eq_some_iff.1 hu).1
    have:=hcell i (Z0)
    rw[Deep.add_add,hc]at this
    exact this.trans hu
   ·intro x hx
    obtain⟨i,hi1,rfl⟩:=List.mem_map.1 hx
    exact(hf i (List.mem_range.1 hi1)).choose_spec.2.2
end Go.Proofs.Ythcpdiknejblnaa.Ra
