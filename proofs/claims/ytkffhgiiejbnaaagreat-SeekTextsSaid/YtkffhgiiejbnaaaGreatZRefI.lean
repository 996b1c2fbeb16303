import Derived.Test.YtkffhgiiejbnaaaGreatZOf
import Derived.Test.YtkffhgiiejbnaaaGreatZDecA
import Derived.Test.YtkffhgiiejbnaaaGreatZ01
import Derived.Test.YtkffhgiiejbnaaaGreatZ03
set_option linter.unusedVariables false
set_option linter.unusedSimpArgs false
namespace Go.Proofs.YtkffhgiiejbnaaaGreat.Rt
open Go.RowKit YtkffhgiiejbnaaaGreatW.PrintWords YtkffhgiiejbnaaaGreatW.PrintLast YtkffhgiiejbnaaaGreatW.PrintMore Rf Aid Mp Hp Tk Vc Dc
theorem great9 (X:List S93) (hX:X.length≤9223372036854775807):∀ (d k i:Nat),X.length-i=d->d<k->i≤X.length->∃ g,ligatureref09_Great.l0 k X (i:Int)=some g
 | 0,k,i,h0,h1,h2=>by
  obtain⟨k,rfl⟩:∃ m,k=m+1:=⟨k-1,Z1⟩
  simp only[ligatureref09_Great.l0]
  rw[if_neg (Z1)]
  exact⟨_,rfl⟩
 | d+1,k,i,h0,h1,h2=>by
  obtain⟨k,rfl⟩:∃ m,k=m+1:=⟨k-1,Z1⟩
  simp only[ligatureref09_Great.l0]
  rw[if_pos (Z1),if_pos (Z1)]
  split
  ·exact⟨_,rfl⟩
  ·rw[w64 (Z1) (Z1),show ((i:Int)+1)=((i+1:Nat):Int) from Z1]
   exact great9 X hX d k (i+1) (Z1) (Z1) (Z1)
theorem great_some (L:List Int) (C:List S165) (J:List S108) (X:List S93) (hX:X.length≤9223372036854775807):∃ g:Int,ligaturelaw12_Great.f (X.length+1) L C J X=some g/\(g=0\/g=1):=by
 obtain⟨g,hg⟩:=great9 X hX X.length (X.length+1) 0 (Z1) (Z1) (Z1)
 have hg:ligatureref09_Great.f (X.length+1) X=some g:=hg
 unfold ligaturelaw12_Great.f ligatureref10_Great.f
 rw[hg]
 by_cases h1:(L.length:Int)>60
 ·rw[if_pos h1];exact⟨1,rfl,.inr rfl⟩
 rw[if_neg h1]
 by_cases h2:(C.length:Int)>20
 ·rw[if_pos h2];exact⟨1,rfl,.inr rfl⟩
 rw[if_neg h2]
 by_cases h3:(J.length:Int)>20
 ·rw[if_pos h3];exact⟨1,rfl,.inr rfl⟩
 rw[if_neg h3]
 cases g
 ·exact⟨0,rfl,.inl rfl⟩
 ·exact⟨1,rfl,.inr rfl⟩
theorem great_any {A0 A1 A2 A3:Option Addr} {c0 c1 c2 c3:Nat} {L:List Int} {C:List S165} {J:List S108} {X:List S93} {w:World} (h:CaseAt w A0 A1 A2 A3 c0 c1 c2 c3 L C J X) :
  ∃ g:Int,(g=0\/g=1)/\∀ W,Below w.heap.size w W->Calls Tryz.prog 13 #[caseV A0 A1 A2 A3 c0 c1 c2 c3 L C J X] W fun e w'=>e=.returned (.int .i64 g)/\Below W.heap.size W w':=by
 obtain⟨g,hg,h01⟩:=great_some L C J X h.hX.2.1
 refine⟨g,h01,fun W hW=>?_⟩
 have h':=h.below hW
 exact ligaturelaw12_Great.calls _ A0 c0 L A1 c1 C A2 c2 J A3 c3 X g W h'.hL h'.h0 h'.hC h'.h1 h'.hJ h'.h2 h'.hX h'.h3 hg
def badF (s:Vc.Sp) (ids:List Int):Option Nat:=ids.findIdx? (fun id=>!hasId s id)
def itL (s:Vc.Sp) (ids:List Int):List Int:=(ids.map (itemsOf s)).flatten
theorem itF_bad (s:Vc.Sp):∀ (ids:List Int) (n:Nat) (xs:List Int),itF s ids n xs=match badF s ids with|some i=>([],n+i,4)|none=>(xs++itL s ids,n+ids.length,0)
 | [],n,xs=>by simp[itF,badF,itL]
 | id::l,n,xs=>by
  unfold itF badF
  rw[List.findIdx?_cons]
  cases h:hasId s id with
  | false=>simp
  | true =>
   rw[if_pos rfl,itF_bad s l (n+1) (xs++itemsOf s id)]
   unfold badF
   cases l.findIdx? fun id=>!hasId s id with
   | none=>simp[itL];omega
   | some i=>simp;omega
end Go.Proofs.YtkffhgiiejbnaaaGreat.Rt
