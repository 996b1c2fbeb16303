import Derived.Test.YthcpdiknejblnaaQcAid
import Derived.Test.YthcpdiknejblnaaQc01
import Derived.Test.YthcpdiknejblnaaQcMap
set_option maxHeartbeats 400000
set_option linter.unusedVariables false
set_option linter.unusedSimpArgs false
namespace Go.Proofs.Ythcpdiknejblnaa.Hp
open Go.RowKit YthcpdiknejblnaaW.PrintWords YthcpdiknejblnaaW.PrintLast YthcpdiknejblnaaW.PrintMore Rf Aid Mp
theorem frozen_of {w:World} {p t:Nat} {cs:Array Value} (h:w.heap[p]?=some (.cells cs t (0,0))) (o:Nat):w.frozen? ⟨p,o,none⟩=false:=by
 simp[World.frozen?,h]
theorem w64 {i:Int} (h0:-9223372036854775808≤i) (h:i≤9223372036854775807):wrap64 i=i:=by unfold wrap64;omega
theorem rdI {l:List Int} {i:Nat} (h:i<l.length):rd l (i:Int)=l[i]:=by
 unfold rd;rw[Int.toNat_natCast,List.getD_eq_getElem?_getD,List.getElem?_eq_getElem h];rfl
theorem ints_run (a b:List Int) (hab:a.length=b.length) (hl:a.length≤9223372036854775807):∀ (d k i:Nat),i≤a.length->a.length-i=d->d<k->ligatureref02_Ints.l0 k a b i=some (decide (a.drop i=b.drop i))
 | 0,k,i,h0,h1,h2=>by
  obtain⟨k,rfl⟩:∃ m,k=m+1:=⟨k-1,Z0⟩
  simp only[ligatureref02_Ints.l0]
  rw[if_neg (Z0),List.drop_eq_nil_of_le (Z0),List.drop_eq_nil_of_le (Z0)];simp
 | d+1,k,i,h0,h1,h2=>by
  obtain⟨k,rfl⟩:∃ m,k=m+1:=⟨k-1,Z0⟩
  have hlt:i<a.length:=Z0
  have hlt':i<b.length:=Z0
  simp only[ligatureref02_Ints.l0]
  rw[if_pos (Z0),if_pos (Z0),if_pos (Z0),rdI hlt,rdI hlt',List.drop_eq_getElem_cons hlt,List.drop_eq_getElem_cons hlt']
  by_cases hx:a[i]=b[i]
  ·rw[if_pos hx,w64 (Z0) (Z0),show ((i:Int)+1)=((i+1:Nat):Int) from Z0,ints_run a b hab hl d k (i+1) (Z0) (Z0) (Z0)]
   congr 1;rw[decide_eq_decide,List.cons.injEq];exact⟨fun h=>⟨hx,h⟩,fun h=>h.2⟩
  ·rw[if_neg hx];congr 1;symm;rw[decide_eq_false_iff_not,List.cons.injEq];exact fun h=>hx h.1
theorem ints_some (a b:List Int) (hl:a.length≤9223372036854775807):ligatureref02_Ints.f (a.length+1) a b=some (decide (a=b)):=by
 unfold ligatureref02_Ints.f
 by_cases h:a.length=b.length
 ·rw[if_pos (Z0)]
  exact(ints_run a b h hl a.length (a.length+1) 0 (Z0) (Z0) (Z0)).trans (by rw[List.drop_zero,List.drop_zero])
 ·rw[if_neg (Z0)];congr 1;symm;rw[decide_eq_false_iff_not];intro e;exact h (by rw[e])
theorem ints_any (xs ys:List Int) (A B:Option Addr) (c d:Nat) (w:World) (hr0:Kd.C (Kd.int .i64) w A xs.length xs) (hc0:xs.length≤c) (hr1:Kd.C (Kd.int .i64) w B ys.length ys) (hc1:ys.length≤d) (hl:xs.length≤9223372036854775807) :
  Calls Try.prog 19 #[.slice A xs.length c,.slice B ys.length d] w fun e w'=>e=.returned (.bool (decide (xs=ys)))/\Drawn w w' :=
 (ligatureref02_Ints.calls (xs.length+1) A c xs B d ys _ w hr0 hc0 hr1 hc1 (ints_some xs ys hl)).mono fun e w' ⟨h1,h2⟩=>⟨h1,⟨h2.out⟩⟩
end Go.Proofs.Ythcpdiknejblnaa.Hp
